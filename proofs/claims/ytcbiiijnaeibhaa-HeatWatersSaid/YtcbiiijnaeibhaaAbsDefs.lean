/-
  The abstract machine: plain data, abstract states, the evaluator of operations. No program is named here.
-/
import Derived.Calls
set_option linter.unusedVariables false
set_option linter.unusedSimpArgs false
namespace Go.Abs

/-- Plain data of one cell: what a value in a cell reads as. A slice: its stride (cells of an element), its length, its elements' cells. -/
inductive D where
  | undef
  | int (k : IntKind) (n : Int)
  | bool (b : Bool)
  | str (s : ByteArray)
  | sl (s n : Nat) (get : Nat → List D)

instance : Inhabited D := ⟨.undef⟩

def D.stride : D → Nat | .sl s _ _ => s | _ => 0
def D.len : D → Nat | .sl _ n _ => n | _ => 0
def D.nth : D → Nat → List D | .sl _ _ g, i => g i | _, _ => []
def D.isSl : D → Bool | .sl _ _ _ => true | _ => false
/-- cells at an offset of a list of cells replaced -/
def splice {α : Type} (l : List α) (o : Nat) (ys : List α) : List α :=
  l.take o ++ ys ++ l.drop (o + ys.length)
def D.app (x : D) (c : List D) : D := .sl x.stride (x.len + 1) (fun i => if i = x.len then c else x.nth i)
def D.setAt (x : D) (i o : Nat) (c : List D) : D := .sl x.stride x.len (fun j => if j = i then splice (x.nth i) o c else x.nth j)
def D.rep (s n : Nat) (c : List D) : D := .sl s n (fun _ => c)
def D.ofList (s : Nat) (l : List (List D)) : D := .sl s l.length (fun i => l.getD i [])
def D.sub (x : D) (lo hi : Nat) : D := .sl x.stride (hi - lo) (fun i => x.nth (lo + i))
def D.cat (x y : D) : D := .sl x.stride (x.len + y.len) (fun i => if i < x.len then x.nth i else y.nth (i - x.len))

/-- What a closure holds: the address of a box, or of cells that stay as they are. -/
inductive Cap where
  | ref (b off : Nat)
  | sptr (l : List D) (off : Nat)

/-- Abstract cells. -/
inductive AC where
  | undef
  | d (x : D)
  | nils
  | own (k : Nat)
  | ref (b off : Nat)
  | optr (k i off : Nat)
  | sptr (l : List D) (off : Nat)
  | clo (f : Nat) (caps : List Cap)
instance : Inhabited AC := ⟨.undef⟩

/-- Abstract values of slots: one cell or many; a tuple of such; one that holds only under a condition. -/
inductive AU where
  | c (x : AC)
  | agg (l : List AC)
instance : Inhabited AU := ⟨.c .undef⟩
inductive AV where
  | u (x : AU)
  | tup (l : List AU)
  | cnd (b : Bool) (x : AU)
instance : Inhabited AV := ⟨.u (.c .undef)⟩
@[reducible] def AV.c (x : AC) : AV := .u (.c x)
@[reducible] def AV.agg (l : List AC) : AV := .u (.agg l)

inductive Lab where
  | dead
  | owned (x : D)
  | shared (x : D)

def lk {α : Type} : List (Nat × α) → Nat → Option α
  | [], _ => none
  | (t, v) :: r, k => if t = k then some v else lk r k

/-- Abstract states: slots; boxes (variables in memory, by the slot that first held their address); labels (owned slices, likewise). -/
structure St where
  sl : List (Nat × AV)
  bx : List (Nat × List AC)
  lb : List (Nat × Lab)

inductive Wr where
  | box (b : Nat) (c : List AC)
  | lab (k : Nat) (l : Lab)

structure Out where
  obl : Prop
  dst : AV
  wr : List Wr

def Wr.put (st : St) : Wr → St
  | .box b c => { st with bx := (b, c) :: st.bx }
  | .lab k l => { st with lb := (k, l) :: st.lb }
def putAll (st : St) : List Wr → St
  | [] => st
  | x :: r => putAll (x.put st) r
def St.slot (st : St) (t : Nat) (v : AV) : St := { st with sl := (t, v) :: st.sl }
def St.done (st : St) (dst : Option Nat) (o : Out) : St :=
  match dst with
  | some t => (putAll st o.wr).slot t o.dst
  | none => putAll st o.wr

/-- A computation that reads some components of a state. -/
inductive Rd (α : Type) where
  | ret (a : α)
  | slot (t : Nat) (k : AV → Rd α)
  | box (b : Nat) (k : Option (List AC) → Rd α)
  | lab (l : Nat) (k : Option Lab → Rd α)

inductive Comp where
  | slot (t : Nat) | box (b : Nat) | lab (l : Nat)
  deriving DecidableEq

def Rd.run {α : Type} (st : St) : Rd α → α
  | .ret a => a
  | .slot t k => (k ((lk st.sl t).getD default)).run st
  | .box b k => (k (lk st.bx b)).run st
  | .lab l k => (k (lk st.lb l)).run st
def Rd.log {α : Type} (st : St) : Rd α → List Comp
  | .ret _ => []
  | .slot t k => .slot t :: (k ((lk st.sl t).getD default)).log st
  | .box b k => .box b :: (k (lk st.bx b)).log st
  | .lab l k => .lab l :: (k (lk st.lb l)).log st

/-- Arguments and results of specs. -/
inductive Arg where
  | c (x : D)
  | agg (l : List D)
  | ptr (l : List D)
  | clo (f : Nat) (caps : List (List D))
inductive RC where
  | d (x : D)
  | own (x : D)
inductive RV where
  | c (x : RC)
  | agg (l : List RC)
structure FSpec where
  pre : List Arg → Prop
  res : List Arg → List RV
  alias : Bool

abbrev Fns := Nat → Option FSpec

def zAC : Value → AC
  | .int k n => .d (.int k n)
  | .bool b => .d (.bool b)
  | .string s => .d (.str s)
  | .slice none 0 0 => .nils
  | _ => .undef
def ofValue : Value → AV
  | .agg cs => .agg (cs.toList.map zAC)
  | v => .c (zAC v)
def AU.cells : AU → List AC
  | .c x => [x]
  | .agg l => l

end Go.Abs

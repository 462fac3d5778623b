/-
  The evaluator of operations on abstract states.
-/
import Derived.Test.YtcbiiijnaeibhaaAbsDefs
set_option linter.unusedVariables false
set_option linter.unusedSimpArgs false
namespace Go.Abs

def bad : Rd Out := .ret ⟨False, default, []⟩
def okv (v : AV) : Rd Out := .ret ⟨True, v, []⟩

/-- Type facts that the evaluator uses ('eqn': a struct of so many int cells). -/
structure TI where
  size : Nat
  bytes : Nat
  agg : Bool
  zero : List Value
  desc : TypeDesc
  eqn : Option Nat := none
abbrev Tys := Nat → Option TI

def AC.solid : AC → Bool | .undef => false | _ => true
def AU.solid : AU → Bool | .c x => x.solid | .agg l => l.all AC.solid

def opd (x : Operand) (f : AV → Rd Out) : Rd Out :=
  match x with
  | .tmp t => .slot t f
  | .const v => f (ofValue v)
  | .func g => f (.c (.clo g []))
  | .global _ => f (.c .undef)
def opds : List Operand → (List AV → Rd Out) → Rd Out
  | [], f => f []
  | x :: r, f => opd x fun v => opds r fun vs => f (v :: vs)

/-- The data of a cell: what is owned is read through its label. -/
def toD (x : AC) (f : D → Rd Out) : Rd Out :=
  match x with
  | .d x => f x
  | .nils => f (.sl 0 0 fun _ => [])
  | .own k => .lab k fun
    | some (.owned x) => f x
    | some (.shared x) => f x
    | _ => bad
  | _ => bad
def toDs : List AC → (List D → Rd Out) → Rd Out
  | [], f => f []
  | x :: r, f => toD x fun d => toDs r fun ds => f (d :: ds)
/-- The cells behind a captured address. -/
def capDs (x : Cap) (f : List D → Rd Out) : Rd Out :=
  match x with
  | .ref b 0 => .box b fun
    | some cs => toDs cs f
    | none => bad
  | .sptr l 0 => f l
  | _ => bad
def capsDs : List Cap → (List (List D) → Rd Out) → Rd Out
  | [], f => f []
  | x :: r, f => capDs x fun d => capsDs r fun ds => f (d :: ds)
def toArg (v : AV) (f : Arg → Rd Out) : Rd Out :=
  match v with
  | .u (.c (.clo g caps)) => capsDs caps fun ds => f (.clo g ds)
  | .u (.c x) => toD x fun d => f (.c d)
  | .u (.agg l) => toDs l fun ds => f (.agg ds)
  | _ => bad
def toArgs : List AV → (List Arg → Rd Out) → Rd Out
  | [], f => f []
  | v :: r, f => toArg v fun a => toArgs r fun as => f (a :: as)

/-- a name that no live component bears -/
def newLab (nm : Nat) (f : Nat → Rd Out) : Rd Out :=
  .lab nm fun
    | none => f nm
    | some _ => .lab (nm + 100000) fun
      | none => f (nm + 100000)
      | some _ => .lab (nm + 200000) fun
        | none => f (nm + 200000)
        | some _ => bad
def newBox (nm : Nat) (f : Nat → Rd Out) : Rd Out :=
  .box nm fun
    | none => f nm
    | some _ => .box (nm + 100000) fun
      | none => f (nm + 100000)
      | some _ => .box (nm + 200000) fun
        | none => f (nm + 200000)
        | some _ => bad

/-- an owned slice that becomes shared: its label's new state -/
def shareLabs : List AC → (List Wr → Rd Out) → Rd Out
  | [], f => f []
  | .own k :: r, f => .lab k fun
    | some (.owned x) => shareLabs r fun ws => f (.lab k (.shared x) :: ws)
    | some (.shared _) => shareLabs r f
    | _ => bad
  | _ :: r, f => shareLabs r f

/-- a new slice: owned by a new label, or, where nothing may be owned, shared -/
def newSl (lin : Bool) (nm : Nat) (p : Prop) (x : D) (ws : List Wr) : Rd Out :=
  if lin then newLab nm fun k => .ret ⟨p, .c (.own k), ws ++ [.lab k (.owned x)]⟩
  else match ws with
    | [] => .ret ⟨p, .c (.d x), []⟩
    | _ => bad

def binD (op : BinOp) (k : IntKind) (a b : Int) : Option (D × Prop) :=
  match op with
  | .add => some (.int k (k.wrap (a + b)), True)
  | .sub => some (.int k (k.wrap (a - b)), True)
  | .mul => some (.int k (k.wrap (a * b)), True)
  | .quo => some (.int k (k.wrap (a.tdiv b)), b ≠ 0)
  | .rem => some (.int k (a.tmod b), b ≠ 0)
  | .eql => some (.bool (a == b), True)
  | .neq => some (.bool (a != b), True)
  | .lss => some (.bool (decide (a < b)), True)
  | .leq => some (.bool (decide (a ≤ b)), True)
  | .gtr => some (.bool (decide (a > b)), True)
  | .geq => some (.bool (decide (a ≥ b)), True)
  | .shr => some (.int k (a / 2 ^ b.toNat), 0 ≤ b ∧ b ≤ (k.bits : Int))
  | _ => none

/-- equality of cells of int -/
def eqCells : List AC → List AC → Option Bool
  | [], [] => some true
  | .d (.int .i64 a) :: r, .d (.int .i64 b) :: s => (eqCells r s).map fun e => (a == b) && e
  | _, _ => none

def evBin (ty : Tys) (op : BinOp) (t : Nat) (x y : AV) : Rd Out :=
  match x, y with
  | .u (.c (.d (.int j a))), .u (.c (.d (.int k b))) =>
    if j = k then
      match binD op j a b with
      | some (v, p) => .ret ⟨p, .c (.d v), []⟩
      | none => bad
    else bad
  | .u (.c (.d (.bool a))), .u (.c (.d (.bool b))) =>
    match ty t with
    | some { desc := .bool, .. } =>
      match op with
      | .eql => okv (.c (.d (.bool (a == b))))
      | .neq => okv (.c (.d (.bool (!(a == b)))))
      | _ => bad
    | _ => bad
  | .u (.agg l), .u (.agg r) =>
    match ty t with
    | some { eqn := some n, .. } =>
      if l.length = n ∧ r.length = n then
        match eqCells l r with
        | some e =>
          match op with
          | .eql => okv (.c (.d (.bool e)))
          | .neq => okv (.c (.d (.bool (!e))))
          | _ => bad
        | none => bad
      else bad
    | _ => bad
  | _, _ => bad

def unstrip (v : AV) : Option (AU × Bool) :=
  match v with
  | .u x => some (x, true)
  | .cnd q x => some (x, q)
  | .tup _ => none

def evPick (c a b : AV) : Rd Out :=
  match c, unstrip a, unstrip b with
  | .u (.c (.d (.bool p))), some (x, q), some (y, r) =>
    match x, y with
    | .c (.d (.bool x)), .c (.d (.bool y)) => .ret ⟨(p = true → q = true) ∧ (p = false → r = true), .c (.d (.bool (bif p then x else y))), []⟩
    | .c (.d (.int j x)), .c (.d (.int k y)) => .ret ⟨(p = true → q = true) ∧ (p = false → r = true) ∧ j = k, .c (.d (.int j (bif p then x else y))), []⟩
    | _, _ => bad
  | _, _, _ => bad

def loadD (i : TI) (off : Nat) (l : List AC) : Rd Out :=
  if i.agg then .ret ⟨off + i.size ≤ l.length, .agg ((l.drop off).take i.size), []⟩
  else .ret ⟨off < l.length, .c (l.getD off .undef), []⟩

def evLoad (ty : Tys) (t : Nat) (a : AV) : Rd Out :=
  match ty t, a with
  | some i, .u (.c (.ref b off)) => .box b fun
    | some cs => loadD i off cs
    | none => bad
  | some i, .u (.c (.optr k j off)) => .lab k fun
    | some (.owned x) => loadD i off ((x.nth j).map .d)
    | some (.shared x) => loadD i off ((x.nth j).map .d)
    | _ => bad
  | some i, .u (.c (.sptr l off)) => loadD i off (l.map .d)
  | _, _ => bad

/-- data of cells that own nothing -/
def plainD : AC → Option D
  | .d x => some x
  | .nils => some (.sl 0 0 fun _ => [])
  | _ => none
def plainDs : List AC → Option (List D)
  | [] => some []
  | x :: r => match plainD x, plainDs r with
    | some d, some ds => some (d :: ds)
    | _, _ => none

def evStore (ty : Tys) (t : Nat) (a v : AV) : Rd Out :=
  match ty t, v with
  | some i, .u v =>
    match a with
    | .u (.c (.ref b off)) => .box b fun
      | some cs => .ret ⟨v.cells.length = i.size ∧ v.solid = true ∧ off + v.cells.length ≤ cs.length, default, [.box b (splice cs off v.cells)]⟩
      | none => bad
    | .u (.c (.optr k j off)) => .lab k fun
      | some (.owned x) =>
        match plainDs v.cells with
        | some ds => .ret ⟨v.cells.length = i.size ∧ v.solid = true ∧ off + v.cells.length ≤ x.stride, default, [.lab k (.owned (x.setAt j off ds))]⟩
        | none => bad
      | _ => bad
    | _ => bad
  | _, _ => bad

def fieldOff (ty : Tys) (s f : Nat) : Option (Nat × TI) :=
  match ty s with
  | some { desc := .struct fs, .. } =>
    match fs.toList[f]? with
    | some fd => match ty fd.type with
      | some i => if i.size = 0 then none else some (fd.offset, i)
      | none => none
    | none => none
  | _ => none

def evFieldAddr (ty : Tys) (s f : Nat) (a : AV) : Rd Out :=
  match fieldOff ty s f, a with
  | some (o, _), .u (.c (.ref b off)) => okv (.c (.ref b (off + o)))
  | some (o, _), .u (.c (.optr k i off)) => .lab k fun
    | some (.owned _) => okv (.c (.optr k i (off + o)))
    | some (.shared _) => okv (.c (.optr k i (off + o)))
    | _ => bad
  | some (o, _), .u (.c (.sptr l off)) => okv (.c (.sptr l (off + o)))
  | _, _ => bad

def evField (ty : Tys) (s f : Nat) (a : AV) : Rd Out :=
  match fieldOff ty s f, a with
  | some (o, i), .u (.agg l) => loadD i o l
  | _, _ => bad

def elemTI (ty : Tys) (t : Nat) : Option TI :=
  match ty t with
  | some { desc := .slice e, .. } => ty e
  | some { desc := .array _ e, .. } => ty e
  | _ => none

def evIndexAddr (ty : Tys) (t : Nat) (a ix : AV) : Rd Out :=
  match ty t, elemTI ty t, ix with
  | some { desc := .slice _, .. }, some e, .u (.c (.d (.int _ i))) =>
    match a with
    | .u (.c (.own k)) => .lab k fun
      | some (.owned x) => .ret ⟨(0 ≤ i ∧ i < x.len) ∧ x.stride = e.size, .c (.optr k i.toNat 0), []⟩
      | some (.shared x) => .ret ⟨(0 ≤ i ∧ i < x.len) ∧ x.stride = e.size, .c (.sptr (x.nth i.toNat) 0), []⟩
      | _ => bad
    | .u (.c (.d x)) => .ret ⟨x.isSl = true ∧ (0 ≤ i ∧ i < x.len) ∧ x.stride = e.size, .c (.sptr (x.nth i.toNat) 0), []⟩
    | _ => bad
  | some { desc := .array n _, .. }, some e, .u (.c (.d (.int _ i))) =>
    match a with
    | .u (.c (.ref b off)) => .ret ⟨0 ≤ i ∧ i < n, .c (.ref b (off + i.toNat * e.size)), []⟩
    | .u (.c (.sptr l off)) => .ret ⟨0 ≤ i ∧ i < n, .c (.sptr l (off + i.toNat * e.size)), []⟩
    | _ => bad
  | _, _, _ => bad

def evIndex (ty : Tys) (t : Nat) (a ix : AV) : Rd Out :=
  match ty t, elemTI ty t, ix, a with
  | some { desc := .array n _, .. }, some e, .u (.c (.d (.int _ i))), .u (.agg l) =>
    if i = 0 ∨ 0 < i then
      if e.agg then .ret ⟨i < n ∧ i.toNat * e.size + e.size ≤ l.length, .agg ((l.drop (i.toNat * e.size)).take e.size), []⟩
      else .ret ⟨i < n ∧ e.size = 1 ∧ i.toNat < l.length, .c (l.getD i.toNat .undef), []⟩
    else bad
  | _, _, _, _ => bad

def fillParts (place : Nat → Option (Nat × Nat)) : List AC → List (Nat × AV) → Option (List AC)
  | cs, [] => some cs
  | cs, (i, .u v) :: r =>
    match place i with
    | some (o, n) => if v.cells.length = n ∧ v.solid = true ∧ o + n ≤ cs.length then fillParts place (splice cs o v.cells) r else none
    | none => none
  | _, _ => none

def fieldPlace' (ty : Tys) (fs : List Field) (i : Nat) : Option (Nat × Nat) :=
  match fs[i]? with
  | some fd => match ty fd.type with
    | some i => some (fd.offset, i.size)
    | none => none
  | none => none

def evBuild (ty : Tys) (t : Nat) (parts : List (Nat × AV)) : Rd Out :=
  match ty t with
  | some { desc := .struct fs, zero := z, .. } =>
    if fs.toList.all (fun f => (ty f.type).isSome) then
      match fillParts (fieldPlace' ty fs.toList) (z.map zAC) parts with
      | some cs => okv (.agg cs)
      | none => bad
    else bad
  | some { desc := .array _ e, zero := z, .. } =>
    match ty e with
    | some i =>
      match fillParts (fun j => some (j * i.size, i.size)) (z.map zAC) parts with
      | some cs => okv (.agg cs)
      | none => bad
    | none => bad
  | _ => bad

def reps {α : Type} (l : List α) : Nat → List α
  | 0 => []
  | n + 1 => l ++ reps l n
def chunks {α : Type} (s : Nat) (l : List α) : Nat → List (List α)
  | 0 => []
  | n + 1 => l.take s :: chunks s (l.drop s) n

def evBuildSlice (ty : Tys) (lin : Bool) (nm t len : Nat) (parts : List (Nat × AV)) : Rd Out :=
  match ty t with
  | some { desc := .slice e, .. } =>
    match ty e with
    | some i =>
      match fillParts (fun j => some (j * i.size, i.size)) (reps (i.zero.map zAC) len) parts with
      | some cs => shareLabs cs fun ws => toDs cs fun ds => newSl lin nm (len * i.size ≤ 16777216 ∧ i.zero.length = i.size ∧ 0 < i.size) (D.ofList i.size (chunks i.size ds len)) ws
      | none => bad
    | none => bad
  | _ => bad

def evMakeSlice (ty : Tys) (lin : Bool) (nm t : Nat) (l c : AV) : Rd Out :=
  match ty t, l, c with
  | some { desc := .slice e, .. }, .u (.c (.d (.int _ l))), .u (.c (.d (.int _ c))) =>
    match ty e with
    | some i =>
      match plainDs (i.zero.map zAC) with
      | some ds => newSl lin nm ((0 ≤ l ∧ l ≤ c ∧ c ≤ 9223372036854775807 ∧ i.bytes * c ≤ 281474976710656) ∧ i.zero.length = i.size ∧ 0 < i.size) (D.rep i.size l.toNat ds) []
      | none => bad
    | none => bad
  | _, _, _ => bad

def bound (x : Option AV) (d : Nat) : Option Int :=
  match x with
  | none => some d
  | some (.u (.c (.d (.int _ n)))) => some n
  | _ => none

def evCut (e : TI) (lo hi : Option AV) (max : Bool) (d : D) (ws : List Wr) : Rd Out :=
  match bound lo 0, bound hi d.len with
  | some l, some h => .ret ⟨max = false ∧ d.isSl = true ∧ (d.len ≠ 0 → d.stride = e.size) ∧ (0 ≤ l ∧ l ≤ h ∧ h ≤ d.len), .c (.d (d.sub l.toNat h.toNat)), ws⟩
  | _, _ => bad

/-- 's[lo:hi]' of a slice: what it cuts becomes shared -/
def evSlice (ty : Tys) (t : Nat) (x : AV) (lo hi : Option AV) (max : Bool) : Rd Out :=
  match ty t, elemTI ty t with
  | some { desc := .slice _, .. }, some e =>
    match x with
    | .u (.c x) => shareLabs [x] fun ws => toD x fun d => evCut e lo hi max d ws
    | _ => bad
  | _, _ => bad

def evLen (ty : Tys) (t : Nat) (x : AV) : Rd Out :=
  match ty t, x with
  | some { desc := .slice _, .. }, .u (.c x) => toD x fun d => .ret ⟨d.isSl = true, .c (.d (.int .i64 d.len)), []⟩
  | some { desc := .string, .. }, .u (.c (.d (.str s))) => okv (.c (.d (.int .i64 s.size)))
  | _, _ => bad

def evMinMax (mx : Bool) : List AV → Rd Out
  | [.u (.c (.d (.int j a))), .u (.c (.d (.int k b)))] =>
    .ret ⟨j = k, .c (.d (.int j (if mx then (if a < b then b else a) else (if b < a then b else a)))), []⟩
  | _ => bad

/-- append of slices (D.cat): the first one is nil, or owned: its label dies -/
def notLab (y : AC) (j : Nat) : Prop := match y with | .own i => i ≠ j | _ => True
def evApp (e : TI) (nm : Nat) (s y : AC) (d : D) : Rd Out :=
  match s with
  | .nils => newLab nm fun k => .ret ⟨(d.isSl = true ∧ (d.len ≠ 0 → d.stride = e.size)) ∧ d.len * e.bytes ≤ 140737488355328 ∧ d.len ≤ 9223372036854775807, .c (.own k),
      [.lab k (.owned (D.cat (.sl e.size 0 fun _ => []) d))]⟩
  | .own j => .lab j fun
    | some (.owned z) => newLab nm fun k => .ret ⟨((d.isSl = true ∧ (d.len ≠ 0 → d.stride = e.size)) ∧ z.stride = e.size ∧ notLab y j) ∧ (z.len + d.len) * e.bytes ≤ 140737488355328 ∧ z.len + d.len ≤ 9223372036854775807,
        .c (.own k), [.lab j .dead, .lab k (.owned (D.cat z d))]⟩
    | _ => bad
  | _ => bad
def evAppend (ty : Tys) (lin : Bool) (nm t : Nat) (s x : AV) : Rd Out :=
  match lin, ty t, elemTI ty t, s, x with
  | true, some { desc := .slice _, .. }, some e, .u (.c s), .u (.c y) => toD y fun d => evApp e nm s y d
  | _, _, _, _, _ => bad

def resCells (lin : Bool) (nm : Nat) : Nat → List RC → (Nat → List AC → List (Nat × D) → Rd Out) → Rd Out
  | j, [], f => f j [] []
  | j, .d x :: r, f => resCells lin nm j r fun j cs ls => f j (.d x :: cs) ls
  | j, .own x :: r, f =>
    if lin then newLab (nm + 10000 * j) fun k => resCells lin nm (j + 1) r fun j cs ls => f j (.own k :: cs) ((k, x) :: ls)
    else resCells lin nm j r fun j cs ls => f j (.d x :: cs) ls
def resAU (lin : Bool) (nm : Nat) (j : Nat) (r : RV) (f : Nat → AU → List (Nat × D) → Rd Out) : Rd Out :=
  match r with
  | .c x => resCells lin nm j [x] fun j cs ls => f j (.c (cs.getD 0 .undef)) ls
  | .agg l => resCells lin nm j l fun j cs ls => f j (.agg cs) ls
def resAUs (lin : Bool) (nm : Nat) : Nat → List RV → (List AU → List (Nat × D) → Rd Out) → Rd Out
  | _, [], f => f [] []
  | j, r :: rs, f => resAU lin nm j r fun j x ls => resAUs lin nm j rs fun xs ls' => f (x :: xs) (ls ++ ls')
def resAV : List AU → AV
  | [x] => .u x
  | l => .tup l

def allCells : List AV → List AC
  | [] => []
  | .u x :: r => x.cells ++ allCells r
  | _ :: r => allCells r

def noCaps : List Arg → Bool
  | [] => true
  | .clo _ ds :: r => ds.isEmpty && noCaps r
  | .ptr _ :: _ => false
  | _ :: r => noCaps r
def callOut (sp : FSpec) (lin : Bool) (nm : Nat) (caps : List Cap) (as : List Arg) (ws : List Wr) : Rd Out :=
  resAUs lin nm 0 (sp.res as) fun xs ls =>
    if lin = true ∨ ws.length = 0 then
      .ret ⟨sp.pre as ∧ (ls.map (·.1)).Nodup ∧ (sp.alias = true → noCaps as = true), resAV xs, ws ++ ls.map fun p => .lab p.1 (.owned p.2)⟩
    else bad
def evCallF (tb : Fns) (lin : Bool) (nm f : Nat) (caps : List Cap) (args : List AV) : Rd Out :=
  match tb f with
  | none => bad
  | some sp => toArgs args fun as => capsDs caps fun ds =>
    if sp.alias then shareLabs (allCells args) fun ws => callOut sp lin nm caps (as ++ ds.map .ptr) ws
    else callOut sp lin nm caps (as ++ ds.map .ptr) []

def evConvert (ty : Tys) (dst : Nat) (x : AV) : Rd Out :=
  match ty dst, x with
  | some { desc := .int k, .. }, .u (.c (.d (.int _ n))) => okv (.c (.d (.int k (k.wrap n))))
  | _, _ => bad

def capsOf : List AV → Option (List Cap)
  | [] => some []
  | .u (.c (.ref b off)) :: r => (capsOf r).map (.ref b off :: ·)
  | .u (.c (.sptr l off)) :: r => (capsOf r).map (.sptr l off :: ·)
  | _ => none

def evOp (ty : Tys) (tb : Fns) (lin : Bool) (o : Oper) : Rd Out :=
  let nm := o.dst.getD 0
  match o.op with
  | .move x => opd x okv
  | .assign x => opd x okv
  | .pick c a b => opd c fun c => opd a fun a => opd b fun b => evPick c a b
  | .alloc t =>
    match lin, ty t with
    | true, some i => newBox nm fun b => .ret ⟨True, .c (.ref b 0), [.box b (i.zero.map zAC)]⟩
    | _, _ => bad
  | .box _ x => opd x fun
    | .u v => if lin then newBox nm fun b => .ret ⟨v.solid = true, .c (.ref b 0), [.box b v.cells]⟩ else bad
    | _ => bad
  | .build t ps => opds (ps.toList.map (·.2)) fun vs => evBuild ty t ((ps.toList.map (·.1)).zip vs)
  | .buildSlice t n ps => opds (ps.toList.map (·.2)) fun vs => evBuildSlice ty lin nm t n ((ps.toList.map (·.1)).zip vs)
  | .load t a => opd a (evLoad ty t)
  | .store t a v => opd a fun a => opd v fun v => if lin then evStore ty t a v else bad
  | .nilCheck x => opd x fun v => match v with
    | .u (.c (.ref _ _)) | .u (.c (.sptr _ _)) => okv v
    | _ => bad
  | .binOp op t x y _ => opd x fun x => opd y fun y => evBin ty op t x y
  | .unOp op _ x => opd x fun x => match op, x with
    | .neg, .u (.c (.d (.int k n))) => okv (.c (.d (.int k (k.wrap (0 - n)))))
    | .not, .u (.c (.d (.bool b))) => okv (.c (.d (.bool !b)))
    | _, _ => bad
  | .convert s d x => match ty s with
    | some _ => opd x (evConvert ty d)
    | none => bad
  | .makeFunc (.func f) first caps =>
    match first.toList with
    | [] => opds caps.toList fun vs => match capsOf vs with
      | some cs => okv (.c (.clo f cs))
      | none => bad
    | _ => bad
  | .makeSlice t l c => opd l fun l => opd c fun c => evMakeSlice ty lin nm t l c
  | .slice t x lo hi mx => opd x fun x =>
    match lo, hi with
    | none, none => evSlice ty t x none none mx.isSome
    | some l, none => opd l fun l => evSlice ty t x (some l) none mx.isSome
    | none, some h => opd h fun h => evSlice ty t x none (some h) mx.isSome
    | some l, some h => opd l fun l => opd h fun h => evSlice ty t x (some l) (some h) mx.isSome
  | .fieldAddr s x f => opd x (evFieldAddr ty s f)
  | .field s x f => opd x (evField ty s f)
  | .indexAddr t x i => opd x fun x => opd i fun i => evIndexAddr ty t x i
  | .index t x i => opd x fun x => opd i fun i => evIndex ty t x i
  | .extract x i => opd x fun v => match v with
    | .tup l => .ret ⟨i < l.length, .u (l.getD i default), []⟩
    | _ => bad
  | .call { callee := .builtin .len, args := args, argTypes := ts } =>
    match args.toList, ts.toList with
    | [x], [t] => opd x (evLen ty t)
    | _, _ => bad
  | .call { callee := .builtin .append, args := args, argTypes := ts } =>
    match args.toList, ts.toList with
    | [s, x], [t, u] => match ty u with
      | some { desc := .slice _, .. } => opd s fun s => opd x fun x => evAppend ty lin nm t s x
      | _ => bad
    | _, _ => bad
  | .call { callee := .builtin .max, args := args, .. } => opds args.toList (evMinMax true)
  | .call { callee := .builtin .min, args := args, .. } => opds args.toList (evMinMax false)
  | .call { callee := .value f, args := args, .. } => opd f fun
    | .u (.c (.clo f caps)) => opds args.toList fun vs => evCallF tb lin nm f caps vs
    | _ => bad
  | _ => bad

/-- an operation that runs only under a condition: its value holds under it -/
def addObl (p : Prop) : Rd Out → Rd Out
  | .ret o => .ret { o with obl := p ∧ o.obl }
  | .slot t k => .slot t fun v => addObl p (k v)
  | .box b k => .box b fun v => addObl p (k v)
  | .lab l k => .lab l fun v => addObl p (k v)
def underC (c : Bool) : Rd Out → Rd Out
  | .ret o => match o.wr, o.dst with
    | [], .u x => .ret ⟨c = true → o.obl, .cnd c x, []⟩
    | _, _ => bad
  | .slot t k => .slot t fun v => match v with
    | .cnd q x => addObl (c = true → q = true) (underC c (k (.u x)))
    | v => underC c (k v)
  | .box b k => .box b fun v => underC c (k v)
  | .lab l k => .lab l fun v => underC c (k v)

/-- a choice that is made only under a condition -/
def evPickC (c : Bool) (p a b : AV) : Rd Out :=
  match unstrip p, unstrip a, unstrip b with
  | some (.c (.d (.bool p)), o), some (x, q), some (y, r) =>
    match x, y with
    | .c (.d (.bool x)), .c (.d (.bool y)) => .ret ⟨c = true → o = true ∧ (p = true → q = true) ∧ (p = false → r = true), .cnd c (.c (.d (.bool (bif p then x else y)))), []⟩
    | .c (.d (.int j x)), .c (.d (.int k y)) => .ret ⟨c = true → o = true ∧ (p = true → q = true) ∧ (p = false → r = true) ∧ j = k, .cnd c (.c (.d (.int j (bif p then x else y)))), []⟩
    | _, _ => bad
  | _, _, _ => bad
def underG (c : Bool) (op : Op) (r : Rd Out) : Rd Out :=
  match op with
  | .pick p x y => opd p fun p => opd x fun x => opd y fun y => evPickC c p x y
  | _ => underC c r

def nthD : List (Option Nat) → Nat → Option Nat
  | [], _ => none
  | d :: _, 0 => d
  | _ :: r, n + 1 => nthD r n
def evGuarded (ty : Tys) (tb : Fns) (ds : List (Option Nat)) (o : Oper) : Rd Out :=
  match o.guard with
  | none => evOp ty tb true o
  | some (j, want) =>
    match nthD ds j with
    | none => bad
    | some t => .slot t fun
      | .u (.c (.d (.bool b))) => underG (b == want) o.op (evOp ty tb false o)
      | .cnd q (.c (.d (.bool b))) => underG (q && (b == want)) o.op (evOp ty tb false o)
      | _ => bad

end Go.Abs

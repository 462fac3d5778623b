/-
  The evaluator with named continuations: simp goes into a lambda's body ahead of its use, not into a name's.
-/
import Derived.Test.YtcbiiijnaeibhaaAbsEv
import Derived.Test.YtcbiiijnaeibhaaAbsDraw2
set_option linter.unusedVariables false
set_option linter.unusedSimpArgs false
namespace Go.Abs

theorem lab_fun {k : Nat} {f g : Option Lab → Rd Out} (h0 : f none = g none) (h1 : f (some .dead) = g (some .dead)) (h2 : ∀ x, f (some (.owned x)) = g (some (.owned x))) (h3 : ∀ x, f (some (.shared x)) = g (some (.shared x))) : (Rd.lab k f) = .lab k g := by
  congr 1; funext x; rcases x with _ | x
  · exact h0
  · cases x
    · exact h1
    · exact h2 _
    · exact h3 _
theorem box_fun {k : Nat} {f g : Option (List AC) → Rd Out} (h0 : f none = g none) (h1 : ∀ x, f (some x) = g (some x)) : (Rd.box k f) = .box k g := by
  congr 1; funext x; rcases x with _ | x
  · exact h0
  · exact h1 _

def kCons {α : Type} (f : List α → Rd Out) (v : α) (vs : List α) : Rd Out := f (v :: vs)
def kOpds (r : List Operand) (f : List AV → Rd Out) (v : AV) : Rd Out := opds r (kCons f v)
theorem opds_nil (f : List AV → Rd Out) : opds [] f = f [] := rfl
theorem opds_cons (x : Operand) (r : List Operand) (f : List AV → Rd Out) : opds (x :: r) f = opd x (kOpds r f) := rfl

def kD (f : D → Rd Out) : Option Lab → Rd Out
  | some (.owned x) => f x
  | some (.shared x) => f x
  | _ => bad
theorem toD_d (x : D) (f : D → Rd Out) : toD (.d x) f = f x := rfl
theorem toD_nils (f : D → Rd Out) : toD .nils f = f (.sl 0 0 fun _ => []) := rfl
theorem toD_own (k : Nat) (f : D → Rd Out) : toD (.own k) f = .lab k (kD f) := by
  exact lab_fun rfl rfl (fun _ => rfl) (fun _ => rfl)
def kDs (r : List AC) (f : List D → Rd Out) (d : D) : Rd Out := toDs r (kCons f d)
theorem toDs_nil (f : List D → Rd Out) : toDs [] f = f [] := rfl
theorem toDs_cons (x : AC) (r : List AC) (f : List D → Rd Out) : toDs (x :: r) f = toD x (kDs r f) := rfl
def kCap (f : List D → Rd Out) : Option (List AC) → Rd Out
  | some cs => toDs cs f
  | none => bad
theorem capDs_ref (b : Nat) (f : List D → Rd Out) : capDs (.ref b 0) f = .box b (kCap f) := by
  exact box_fun rfl (fun _ => rfl)
theorem capDs_sptr (l : List D) (f : List D → Rd Out) : capDs (.sptr l 0) f = f l := rfl
def kCaps (r : List Cap) (f : List (List D) → Rd Out) (d : List D) : Rd Out := capsDs r (kCons f d)
theorem capsDs_nil (f : List (List D) → Rd Out) : capsDs [] f = f [] := rfl
theorem capsDs_cons (x : Cap) (r : List Cap) (f : List (List D) → Rd Out) : capsDs (x :: r) f = capDs x (kCaps r f) := rfl
def kArgC (f : Arg → Rd Out) (d : D) : Rd Out := f (.c d)
def kArgA (f : Arg → Rd Out) (d : List D) : Rd Out := f (.agg d)
def kArgF (g : Nat) (f : Arg → Rd Out) (ds : List (List D)) : Rd Out := f (.clo g ds)
theorem toArg_clo (g : Nat) (caps : List Cap) (f : Arg → Rd Out) : toArg (.u (.c (.clo g caps))) f = capsDs caps (kArgF g f) := rfl
theorem toArg_d (x : D) (f : Arg → Rd Out) : toArg (.u (.c (.d x))) f = f (.c x) := rfl
theorem toArg_nils (f : Arg → Rd Out) : toArg (.u (.c .nils)) f = f (.c (.sl 0 0 fun _ => [])) := rfl
theorem toArg_own (k : Nat) (f : Arg → Rd Out) : toArg (.u (.c (.own k))) f = .lab k (kD (kArgC f)) := by
  show toD (.own k) (fun d => f (.c d)) = _
  rw [toD_own]; rfl
theorem toArg_agg (l : List AC) (f : Arg → Rd Out) : toArg (.u (.agg l)) f = toDs l (kArgA f) := rfl
def kArgs (r : List AV) (f : List Arg → Rd Out) (a : Arg) : Rd Out := toArgs r (kCons f a)
theorem toArgs_nil (f : List Arg → Rd Out) : toArgs [] f = f [] := rfl
theorem toArgs_cons (x : AV) (r : List AV) (f : List Arg → Rd Out) : toArgs (x :: r) f = toArg x (kArgs r f) := rfl

def kNew3 (nm : Nat) (f : Nat → Rd Out) : Option Lab → Rd Out | none => f (nm + 200000) | some _ => bad
def kNew2 (nm : Nat) (f : Nat → Rd Out) : Option Lab → Rd Out | none => f (nm + 100000) | some _ => .lab (nm + 200000) (kNew3 nm f)
def kNew1 (nm : Nat) (f : Nat → Rd Out) : Option Lab → Rd Out | none => f nm | some _ => .lab (nm + 100000) (kNew2 nm f)
theorem newLab_k (nm : Nat) (f : Nat → Rd Out) : newLab nm f = .lab nm (kNew1 nm f) := by
  have h : ∀ x, (Rd.lab (nm + 100000) fun
      | none => f (nm + 100000)
      | some _ => .lab (nm + 200000) fun
        | none => f (nm + 200000)
        | some _ => bad) = kNew1 nm f (some x) := fun x => by
    have h2 : ∀ x, (Rd.lab (nm + 200000) fun
        | none => f (nm + 200000)
        | some _ => bad) = kNew2 nm f (some x) := fun x => lab_fun rfl rfl (fun _ => rfl) (fun _ => rfl)
    exact lab_fun rfl (h2 _) (fun x => h2 _) (fun x => h2 _)
  exact lab_fun rfl (h _) (fun x => h _) (fun x => h _)
def kNewB3 (nm : Nat) (f : Nat → Rd Out) : Option (List AC) → Rd Out | none => f (nm + 200000) | some _ => bad
def kNewB2 (nm : Nat) (f : Nat → Rd Out) : Option (List AC) → Rd Out | none => f (nm + 100000) | some _ => .box (nm + 200000) (kNewB3 nm f)
def kNewB1 (nm : Nat) (f : Nat → Rd Out) : Option (List AC) → Rd Out | none => f nm | some _ => .box (nm + 100000) (kNewB2 nm f)
theorem newBox_k (nm : Nat) (f : Nat → Rd Out) : newBox nm f = .box nm (kNewB1 nm f) := by
  refine box_fun rfl (fun x => ?_)
  refine box_fun rfl (fun x => ?_)
  exact box_fun rfl (fun x => rfl)

def kSh2 (k : Nat) (x : D) (f : List Wr → Rd Out) (ws : List Wr) : Rd Out := f (.lab k (.shared x) :: ws)
def kSh (k : Nat) (r : List AC) (f : List Wr → Rd Out) : Option Lab → Rd Out
  | some (.owned x) => shareLabs r (kSh2 k x f)
  | some (.shared _) => shareLabs r f
  | _ => bad
theorem shareLabs_nil (f : List Wr → Rd Out) : shareLabs [] f = f [] := rfl
theorem shareLabs_own (k : Nat) (r : List AC) (f : List Wr → Rd Out) : shareLabs (.own k :: r) f = .lab k (kSh k r f) := by
  exact lab_fun rfl rfl (fun _ => rfl) (fun _ => rfl)
theorem shareLabs_d (x : D) (r : List AC) (f : List Wr → Rd Out) : shareLabs (.d x :: r) f = shareLabs r f := rfl
theorem shareLabs_nils (r : List AC) (f : List Wr → Rd Out) : shareLabs (.nils :: r) f = shareLabs r f := rfl
theorem shareLabs_clo (g : Nat) (c : List Cap) (r : List AC) (f : List Wr → Rd Out) : shareLabs (.clo g c :: r) f = shareLabs r f := rfl

def kNewSl (p : Prop) (x : D) (ws : List Wr) (k : Nat) : Rd Out := .ret ⟨p, .c (.own k), ws ++ [.lab k (.owned x)]⟩
theorem newSl_true (nm : Nat) (p : Prop) (x : D) (ws : List Wr) : newSl true nm p x ws = newLab nm (kNewSl p x ws) := rfl
theorem newSl_false (nm : Nat) (p : Prop) (x : D) : newSl false nm p x [] = .ret ⟨p, .c (.d x), []⟩ := rfl

def kLoadB (i : TI) (off : Nat) : Option (List AC) → Rd Out
  | some cs => loadD i off cs
  | none => bad
def kLoadL (i : TI) (j off : Nat) : Option Lab → Rd Out
  | some (.owned x) => loadD i off ((x.nth j).map .d)
  | some (.shared x) => loadD i off ((x.nth j).map .d)
  | _ => bad
def kLoad1 (i : TI) : AV → Rd Out
  | .u (.c (.ref b off)) => .box b (kLoadB i off)
  | .u (.c (.optr k j off)) => .lab k (kLoadL i j off)
  | .u (.c (.sptr l off)) => loadD i off (l.map .d)
  | _ => bad
def kLoad : Option TI → AV → Rd Out
  | some i, a => kLoad1 i a
  | none, _ => bad
theorem evLoad_k (ty : Tys) (t : Nat) (a : AV) : evLoad ty t a = kLoad (ty t) a := by
  unfold evLoad kLoad
  cases ty t with
  | none => cases a <;> rfl
  | some i =>
    cases a with
    | u a => cases a with
      | c a => cases a <;> first | rfl | exact box_fun rfl (fun _ => rfl) | exact lab_fun rfl rfl (fun _ => rfl) (fun _ => rfl)
      | agg l => rfl
    | _ => rfl

def kStB (i : TI) (b off : Nat) (v : AU) : Option (List AC) → Rd Out
  | some cs => .ret ⟨v.cells.length = i.size ∧ v.solid = true ∧ off + v.cells.length ≤ cs.length, default, [.box b (splice cs off v.cells)]⟩
  | none => bad
def kStL2 (i : TI) (k j off : Nat) (v : AU) (x : D) : Option (List D) → Rd Out
  | some ds => .ret ⟨v.cells.length = i.size ∧ v.solid = true ∧ off + v.cells.length ≤ x.stride, default, [.lab k (.owned (x.setAt j off ds))]⟩
  | none => bad
def kStL (i : TI) (k j off : Nat) (v : AU) : Option Lab → Rd Out
  | some (.owned x) => kStL2 i k j off v x (plainDs v.cells)
  | _ => bad
def kSt1 (i : TI) (v : AU) : AV → Rd Out
  | .u (.c (.ref b off)) => .box b (kStB i b off v)
  | .u (.c (.optr k j off)) => .lab k (kStL i k j off v)
  | _ => bad
def kSt (a : AV) : Option TI → AV → Rd Out
  | some i, .u v => kSt1 i v a
  | _, _ => bad
theorem evStore_k (ty : Tys) (t : Nat) (a v : AV) : evStore ty t a v = kSt a (ty t) v := by
  unfold evStore kSt
  cases ty t with
  | none => cases v <;> rfl
  | some i =>
    cases v with
    | u v => cases a with
      | u a => cases a with
        | c a => cases a <;> first | rfl | exact box_fun rfl (fun _ => rfl) | (refine lab_fun rfl rfl (fun x => ?_) (fun _ => rfl); simp only [kStL]; cases plainDs v.cells <;> rfl)
        | agg l => rfl
      | _ => rfl
    | _ => rfl

def kFa2 (k i o : Nat) : Option Lab → Rd Out
  | some (.owned _) => okv (.c (.optr k i o))
  | some (.shared _) => okv (.c (.optr k i o))
  | _ => bad
def kFa1 (o : Nat) : AV → Rd Out
  | .u (.c (.ref b off)) => okv (.c (.ref b (off + o)))
  | .u (.c (.optr k i off)) => .lab k (kFa2 k i (off + o))
  | .u (.c (.sptr l off)) => okv (.c (.sptr l (off + o)))
  | _ => bad
def kFa (a : AV) : Option (Nat × TI) → Rd Out
  | some p => kFa1 p.1 a
  | none => bad
theorem evFieldAddr_k (ty : Tys) (s f : Nat) (a : AV) : evFieldAddr ty s f a = kFa a (fieldOff ty s f) := by
  unfold evFieldAddr kFa
  cases fieldOff ty s f with
  | none => cases a <;> rfl
  | some p =>
    cases a with
    | u a => cases a with
      | c a => cases a <;> first | rfl | exact lab_fun rfl rfl (fun _ => rfl) (fun _ => rfl)
      | agg l => rfl
    | _ => rfl

def kIx (k : Nat) (i : Int) (e : TI) : Option Lab → Rd Out
  | some (.owned x) => .ret ⟨(0 ≤ i ∧ i < x.len) ∧ x.stride = e.size, .c (.optr k i.toNat 0), []⟩
  | some (.shared x) => .ret ⟨(0 ≤ i ∧ i < x.len) ∧ x.stride = e.size, .c (.sptr (x.nth i.toNat) 0), []⟩
  | _ => bad
theorem evIndexAddr_own (ty : Tys) (t k : Nat) (kd : IntKind) (i : Int) : evIndexAddr ty t (.u (.c (.own k))) (.u (.c (.d (.int kd i)))) =
    match ty t, elemTI ty t with
    | some { desc := .slice _, .. }, some e => .lab k (kIx k i e)
    | _, _ => bad := by
  unfold evIndexAddr
  cases ty t with
  | none => rfl
  | some ti =>
    cases elemTI ty t with
    | none => obtain ⟨_, _, _, _, d, _⟩ := ti; cases d <;> rfl
    | some e =>
      obtain ⟨_, _, _, _, d, _⟩ := ti
      cases d <;> first | rfl | exact lab_fun rfl rfl (fun _ => rfl) (fun _ => rfl)


def kBs2 (lin : Bool) (nm len : Nat) (i : TI) (ws : List Wr) (ds : List D) : Rd Out :=
  newSl lin nm (len * i.size ≤ 16777216 ∧ i.zero.length = i.size ∧ 0 < i.size) (D.ofList i.size (chunks i.size ds len)) ws
def kBs1 (lin : Bool) (nm len : Nat) (i : TI) (cs : List AC) (ws : List Wr) : Rd Out := toDs cs (kBs2 lin nm len i ws)
def kBs (lin : Bool) (nm len : Nat) (i : TI) : Option (List AC) → Rd Out
  | some cs => shareLabs cs (kBs1 lin nm len i cs)
  | none => bad
theorem evBuildSlice_k (ty : Tys) (lin : Bool) (nm t len : Nat) (parts : List (Nat × AV)) : evBuildSlice ty lin nm t len parts =
    match ty t with
    | some { desc := .slice e, .. } =>
      match ty e with
      | some i => kBs lin nm len i (fillParts (fun j => some (j * i.size, i.size)) (reps (i.zero.map zAC) len) parts)
      | none => bad
    | _ => bad := by
  unfold evBuildSlice
  cases ty t with
  | none => rfl
  | some ti =>
    obtain ⟨_, _, _, _, d, _⟩ := ti
    cases d <;> first | rfl | skip

def kSl2 (e : TI) (lo hi : Option AV) (max : Bool) (ws : List Wr) (d : D) : Rd Out := evCut e lo hi max d ws
def kSl1 (e : TI) (x : AC) (lo hi : Option AV) (max : Bool) (ws : List Wr) : Rd Out := toD x (kSl2 e lo hi max ws)
theorem evSlice_k (ty : Tys) (t : Nat) (x : AC) (lo hi : Option AV) (max : Bool) : evSlice ty t (.u (.c x)) lo hi max =
    match ty t, elemTI ty t with
    | some { desc := .slice _, .. }, some e => shareLabs [x] (kSl1 e x lo hi max)
    | _, _ => bad := by
  unfold evSlice
  cases ty t with
  | none => rfl
  | some ti =>
    obtain ⟨_, _, _, _, d, _⟩ := ti
    cases elemTI ty t with
    | none => cases d <;> rfl
    | some e => cases d <;> rfl

def kLen (d : D) : Rd Out := .ret ⟨d.isSl = true, .c (.d (.int .i64 d.len)), []⟩
def kLen1 (x : AV) : Option TI → Rd Out
  | some { desc := .slice _, .. } => match x with
    | .u (.c x) => toD x kLen
    | _ => bad
  | some { desc := .string, .. } => match x with
    | .u (.c (.d (.str s))) => okv (.c (.d (.int .i64 s.size)))
    | _ => bad
  | _ => bad
theorem evLen_k (ty : Tys) (t : Nat) (x : AV) : evLen ty t x = kLen1 x (ty t) := by
  unfold evLen kLen1
  cases ty t with
  | none => rfl
  | some ti =>
    obtain ⟨_, _, _, _, d, _⟩ := ti
    cases x with
    | u x => cases x with
      | c x => cases d <;> first | rfl | (cases x <;> first | rfl | (rename_i y; cases y <;> rfl))
      | agg l => cases d <;> rfl
    | _ => cases d <;> rfl

def kApp0 (e : TI) (d : D) (k : Nat) : Rd Out := .ret ⟨(d.isSl = true ∧ (d.len ≠ 0 → d.stride = e.size)) ∧ d.len * e.bytes ≤ 140737488355328 ∧ d.len ≤ 9223372036854775807, .c (.own k),
      [.lab k (.owned (D.cat (.sl e.size 0 fun _ => []) d))]⟩
def kApp2 (e : TI) (j : Nat) (y : AC) (z d : D) (k : Nat) : Rd Out :=
  .ret ⟨((d.isSl = true ∧ (d.len ≠ 0 → d.stride = e.size)) ∧ z.stride = e.size ∧ notLab y j) ∧ (z.len + d.len) * e.bytes ≤ 140737488355328 ∧ z.len + d.len ≤ 9223372036854775807,
        .c (.own k), [.lab j .dead, .lab k (.owned (D.cat z d))]⟩
def kApp1 (e : TI) (nm j : Nat) (y : AC) (d : D) : Option Lab → Rd Out
  | some (.owned z) => newLab nm (kApp2 e j y z d)
  | _ => bad
theorem evApp_nils (e : TI) (nm : Nat) (y : AC) (d : D) : evApp e nm .nils y d = newLab nm (kApp0 e d) := rfl
theorem evApp_own (e : TI) (nm j : Nat) (y : AC) (d : D) : evApp e nm (.own j) y d = .lab j (kApp1 e nm j y d) := lab_fun rfl rfl (fun _ => rfl) (fun _ => rfl)
def kAppd (e : TI) (nm : Nat) (s y : AC) (d : D) : Rd Out := evApp e nm s y d
theorem evAppend_k (ty : Tys) (nm t : Nat) (s y : AC) : evAppend ty true nm t (.u (.c s)) (.u (.c y)) =
    match ty t, elemTI ty t with
    | some { desc := .slice _, .. }, some e => toD y (kAppd e nm s y)
    | _, _ => bad := by
  unfold evAppend
  cases ty t with
  | none => rfl
  | some ti =>
    obtain ⟨_, _, _, _, d, _⟩ := ti
    cases elemTI ty t with
    | none => cases d <;> rfl
    | some e => cases d <;> rfl

def kRcD (x : D) (f : Nat → List AC → List (Nat × D) → Rd Out) (j : Nat) (cs : List AC) (ls : List (Nat × D)) : Rd Out := f j (.d x :: cs) ls
def kRcO (k : Nat) (x : D) (f : Nat → List AC → List (Nat × D) → Rd Out) (j : Nat) (cs : List AC) (ls : List (Nat × D)) : Rd Out := f j (.own k :: cs) ((k, x) :: ls)
def kRc (nm j : Nat) (r : List RC) (x : D) (f : Nat → List AC → List (Nat × D) → Rd Out) (k : Nat) : Rd Out := resCells true nm (j + 1) r (kRcO k x f)
theorem resCells_nil (lin : Bool) (nm j : Nat) (f : Nat → List AC → List (Nat × D) → Rd Out) : resCells lin nm j [] f = f j [] [] := rfl
theorem resCells_d (lin : Bool) (nm j : Nat) (x : D) (r : List RC) (f : Nat → List AC → List (Nat × D) → Rd Out) : resCells lin nm j (.d x :: r) f = resCells lin nm j r (kRcD x f) := rfl
theorem resCells_own (nm j : Nat) (x : D) (r : List RC) (f : Nat → List AC → List (Nat × D) → Rd Out) : resCells true nm j (.own x :: r) f = newLab (nm + 10000 * j) (kRc nm j r x f) := rfl
theorem resCells_own' (nm j : Nat) (x : D) (r : List RC) (f : Nat → List AC → List (Nat × D) → Rd Out) : resCells false nm j (.own x :: r) f = resCells false nm j r (kRcD x f) := rfl
def kRauC (f : Nat → AU → List (Nat × D) → Rd Out) (j : Nat) (cs : List AC) (ls : List (Nat × D)) : Rd Out := f j (.c (cs.getD 0 .undef)) ls
def kRauA (f : Nat → AU → List (Nat × D) → Rd Out) (j : Nat) (cs : List AC) (ls : List (Nat × D)) : Rd Out := f j (.agg cs) ls
theorem resAU_c (lin : Bool) (nm j : Nat) (x : RC) (f : Nat → AU → List (Nat × D) → Rd Out) : resAU lin nm j (.c x) f = resCells lin nm j [x] (kRauC f) := rfl
theorem resAU_agg (lin : Bool) (nm j : Nat) (x : List RC) (f : Nat → AU → List (Nat × D) → Rd Out) : resAU lin nm j (.agg x) f = resCells lin nm j x (kRauA f) := rfl
def kRas2 (x : AU) (ls : List (Nat × D)) (f : List AU → List (Nat × D) → Rd Out) (xs : List AU) (ls' : List (Nat × D)) : Rd Out := f (x :: xs) (ls ++ ls')
def kRas (lin : Bool) (nm : Nat) (rs : List RV) (f : List AU → List (Nat × D) → Rd Out) (j : Nat) (x : AU) (ls : List (Nat × D)) : Rd Out := resAUs lin nm j rs (kRas2 x ls f)
theorem resAUs_nil (lin : Bool) (nm j : Nat) (f : List AU → List (Nat × D) → Rd Out) : resAUs lin nm j [] f = f [] [] := rfl
theorem resAUs_cons (lin : Bool) (nm j : Nat) (r : RV) (rs : List RV) (f : List AU → List (Nat × D) → Rd Out) : resAUs lin nm j (r :: rs) f = resAU lin nm j r (kRas lin nm rs f) := rfl

def kCo (lin : Bool) (ws : List Wr) (p : Prop) (al : Bool) (as : List Arg) (xs : List AU) (ls : List (Nat × D)) : Rd Out :=
  if lin = true ∨ ws.length = 0 then
    .ret ⟨p ∧ (ls.map (·.1)).Nodup ∧ (al = true → noCaps as = true), resAV xs, ws ++ ls.map fun p => .lab p.1 (.owned p.2)⟩
  else bad
theorem callOut_k (sp : FSpec) (lin : Bool) (nm : Nat) (caps : List Cap) (as : List Arg) (ws : List Wr) : callOut sp lin nm caps as ws = resAUs lin nm 0 (sp.res as) (kCo lin ws (sp.pre as) sp.alias as) := rfl
def kC3 (sp : FSpec) (lin : Bool) (nm : Nat) (caps : List Cap) (as : List Arg) (ws : List Wr) : Rd Out := callOut sp lin nm caps as ws
def kC2b (sp : FSpec) (lin : Bool) (nm : Nat) (caps : List Cap) (args : List AV) (as : List Arg) : Bool → Rd Out
  | true => shareLabs (allCells args) (kC3 sp lin nm caps as)
  | false => callOut sp lin nm caps as []
def kC2 (sp : FSpec) (lin : Bool) (nm : Nat) (caps : List Cap) (args : List AV) (as : List Arg) (ds : List (List D)) : Rd Out := kC2b sp lin nm caps args (as ++ ds.map .ptr) sp.alias
def kC1 (sp : FSpec) (lin : Bool) (nm : Nat) (caps : List Cap) (args : List AV) (as : List Arg) : Rd Out := capsDs caps (kC2 sp lin nm caps args as)
def kC0 (lin : Bool) (nm : Nat) (caps : List Cap) (args : List AV) : Option FSpec → Rd Out
  | none => bad
  | some sp => toArgs args (kC1 sp lin nm caps args)
theorem evCallF_k (tb : Fns) (lin : Bool) (nm f : Nat) (caps : List Cap) (args : List AV) : evCallF tb lin nm f caps args = kC0 lin nm caps args (tb f) := by
  unfold evCallF kC0
  cases tb f with
  | none => rfl
  | some sp =>
    show toArgs args _ = toArgs args _
    have h : ∀ as, (capsDs caps fun ds => if sp.alias then shareLabs (allCells args) fun ws => callOut sp lin nm caps (as ++ ds.map .ptr) ws else callOut sp lin nm caps (as ++ ds.map .ptr) []) = kC1 sp lin nm caps args as := fun as => by
      have h2 : ∀ ds, (if sp.alias then shareLabs (allCells args) fun ws => callOut sp lin nm caps (as ++ ds.map .ptr) ws else callOut sp lin nm caps (as ++ ds.map .ptr) []) = kC2 sp lin nm caps args as ds := fun ds => by
        simp only [kC2]
        cases h : sp.alias <;> rfl
      exact congrArg (capsDs caps) (funext h2)
    exact congrArg (toArgs args) (funext h)

section
variable (ty : Tys) (tb : Fns) (lin : Bool) (d : Option Nat) (T : TypeId) (p : String) (af : Array Edge) (g : Option (Nat × Bool))
theorem evOp_move (x : Operand) : evOp ty tb lin ⟨d, .move x, T, p, af, g⟩ = opd x okv := rfl
theorem evOp_assign (x : Operand) : evOp ty tb lin ⟨d, .assign x, T, p, af, g⟩ = opd x okv := rfl
def kPick2 (b : Operand) (c a : AV) : Rd Out := opd b (evPick c a)
def kPick1 (a b : Operand) (c : AV) : Rd Out := opd a (kPick2 b c)
theorem evOp_pick (c a b : Operand) : evOp ty tb lin ⟨d, .pick c a b, T, p, af, g⟩ = opd c (kPick1 a b) := rfl
def kAlloc (i : TI) (b : Nat) : Rd Out := .ret ⟨True, .c (.ref b 0), [.box b (i.zero.map zAC)]⟩
def kAlloc0 (nm : Nat) : Option TI → Rd Out
  | some i => newBox nm (kAlloc i)
  | none => bad
theorem evOp_alloc (t : Nat) : evOp ty tb true ⟨d, .alloc t, T, p, af, g⟩ = kAlloc0 (d.getD 0) (ty t) := by
  show (match true, ty t with | true, some i => _ | _, _ => _) = _
  cases ty t <;> rfl
def kBox2 (v : AU) (b : Nat) : Rd Out := .ret ⟨v.solid = true, .c (.ref b 0), [.box b v.cells]⟩
def kBox (nm : Nat) : AV → Rd Out
  | .u v => newBox nm (kBox2 v)
  | _ => bad
theorem evOp_box (t : Nat) (x : Operand) : evOp ty tb true ⟨d, .box t x, T, p, af, g⟩ = opd x (kBox (d.getD 0)) := by
  show opd x _ = opd x _
  refine congrArg (opd x) (funext fun v => ?_)
  cases v <;> rfl
def kBuild (t : Nat) (ix : List Nat) (vs : List AV) : Rd Out := evBuild ty t (ix.zip vs)
theorem evOp_build (t : Nat) (ps : Array (Nat × Operand)) : evOp ty tb lin ⟨d, .build t ps, T, p, af, g⟩ = opds (ps.toList.map (·.2)) (kBuild ty t (ps.toList.map (·.1))) := rfl
def kBuildS (nm t n : Nat) (ix : List Nat) (vs : List AV) : Rd Out := evBuildSlice ty lin nm t n (ix.zip vs)
theorem evOp_buildSlice (t n : Nat) (ps : Array (Nat × Operand)) : evOp ty tb lin ⟨d, .buildSlice t n ps, T, p, af, g⟩ = opds (ps.toList.map (·.2)) (kBuildS ty lin (d.getD 0) t n (ps.toList.map (·.1))) := rfl
theorem evOp_load (t : Nat) (a : Operand) : evOp ty tb lin ⟨d, .load t a, T, p, af, g⟩ = opd a (evLoad ty t) := rfl
def kSto2 (t : Nat) (a v : AV) : Rd Out := evStore ty t a v
def kSto (t : Nat) (v : Operand) (a : AV) : Rd Out := opd v (kSto2 ty t a)
theorem evOp_store (t : Nat) (a v : Operand) : evOp ty tb true ⟨d, .store t a v, T, p, af, g⟩ = opd a (kSto ty t v) := rfl
def kNil (v : AV) : Rd Out := match v with
  | .u (.c (.ref _ _)) | .u (.c (.sptr _ _)) => okv v
  | _ => bad
theorem evOp_nilCheck (x : Operand) : evOp ty tb lin ⟨d, .nilCheck x, T, p, af, g⟩ = opd x kNil := rfl
def kBin (op : BinOp) (t : Nat) (y : Operand) (x : AV) : Rd Out := opd y (evBin ty op t x)
theorem evOp_binOp (op : BinOp) (t : Nat) (x y : Operand) (u : TypeId) : evOp ty tb lin ⟨d, .binOp op t x y u, T, p, af, g⟩ = opd x (kBin ty op t y) := rfl
def kNeg : AV → Rd Out
  | .u (.c (.d (.int k n))) => okv (.c (.d (.int k (k.wrap (0 - n)))))
  | _ => bad
def kNot : AV → Rd Out
  | .u (.c (.d (.bool b))) => okv (.c (.d (.bool !b)))
  | _ => bad
theorem evOp_neg (t : Nat) (x : Operand) : evOp ty tb lin ⟨d, .unOp .neg t x, T, p, af, g⟩ = opd x kNeg := by
  refine congrArg (opd x) (funext fun v => ?_)
  rcases v with (x | l) | _ | _ <;> first | rfl | (cases x <;> first | rfl | (rename_i y; cases y <;> rfl))
theorem evOp_not (t : Nat) (x : Operand) : evOp ty tb lin ⟨d, .unOp .not t x, T, p, af, g⟩ = opd x kNot := by
  refine congrArg (opd x) (funext fun v => ?_)
  rcases v with (x | l) | _ | _ <;> first | rfl | (cases x <;> first | rfl | (rename_i y; cases y <;> rfl))
def kConv (t : Nat) (x : Operand) : Option TI → Rd Out
  | some _ => opd x (evConvert ty t)
  | none => bad
theorem evOp_convert (s t : Nat) (x : Operand) : evOp ty tb lin ⟨d, .convert s t x, T, p, af, g⟩ = kConv ty t x (ty s) := by
  show (match ty s with | some _ => _ | none => _) = _
  cases ty s <;> rfl
def kMf2 (f : Nat) : Option (List Cap) → Rd Out
  | some cs => okv (.c (.clo f cs))
  | none => bad
def kMf (f : Nat) (vs : List AV) : Rd Out := kMf2 f (capsOf vs)
theorem evOp_makeFunc (f : Nat) (caps : Array Operand) : evOp ty tb lin ⟨d, .makeFunc (.func f) #[] caps, T, p, af, g⟩ = opds caps.toList (kMf f) := by
  show opds caps.toList _ = _
  refine congrArg (opds caps.toList) (funext fun v => ?_)
  simp only [kMf]
  cases capsOf v <;> rfl
def kMs2 (nm t : Nat) (l c : AV) : Rd Out := evMakeSlice ty lin nm t l c
def kMs (nm t : Nat) (c : Operand) (l : AV) : Rd Out := opd c (kMs2 ty lin nm t l)
theorem evOp_makeSlice (t : Nat) (l c : Operand) : evOp ty tb lin ⟨d, .makeSlice t l c, T, p, af, g⟩ = opd l (kMs ty lin (d.getD 0) t c) := rfl
def kSlc0 (t : Nat) (mx : Option Operand) (x : AV) : Rd Out := evSlice ty t x none none mx.isSome
def kSlcL2 (t : Nat) (mx : Option Operand) (x l : AV) : Rd Out := evSlice ty t x (some l) none mx.isSome
def kSlcL (t : Nat) (l : Operand) (mx : Option Operand) (x : AV) : Rd Out := opd l (kSlcL2 ty t mx x)
def kSlcH2 (t : Nat) (mx : Option Operand) (x h : AV) : Rd Out := evSlice ty t x none (some h) mx.isSome
def kSlcH (t : Nat) (h : Operand) (mx : Option Operand) (x : AV) : Rd Out := opd h (kSlcH2 ty t mx x)
def kSlc3 (t : Nat) (mx : Option Operand) (x l h : AV) : Rd Out := evSlice ty t x (some l) (some h) mx.isSome
def kSlc2 (t : Nat) (h : Operand) (mx : Option Operand) (x l : AV) : Rd Out := opd h (kSlc3 ty t mx x l)
def kSlc1 (t : Nat) (l h : Operand) (mx : Option Operand) (x : AV) : Rd Out := opd l (kSlc2 ty t h mx x)
theorem evOp_slice0 (t : Nat) (x : Operand) (mx : Option Operand) : evOp ty tb lin ⟨d, .slice t x none none mx, T, p, af, g⟩ = opd x (kSlc0 ty t mx) := rfl
theorem evOp_sliceL (t : Nat) (x l : Operand) (mx : Option Operand) : evOp ty tb lin ⟨d, .slice t x (some l) none mx, T, p, af, g⟩ = opd x (kSlcL ty t l mx) := rfl
theorem evOp_sliceH (t : Nat) (x h : Operand) (mx : Option Operand) : evOp ty tb lin ⟨d, .slice t x none (some h) mx, T, p, af, g⟩ = opd x (kSlcH ty t h mx) := rfl
theorem evOp_slice (t : Nat) (x l h : Operand) (mx : Option Operand) : evOp ty tb lin ⟨d, .slice t x (some l) (some h) mx, T, p, af, g⟩ = opd x (kSlc1 ty t l h mx) := rfl
theorem evOp_fieldAddr (s : Nat) (x : Operand) (f : Nat) : evOp ty tb lin ⟨d, .fieldAddr s x f, T, p, af, g⟩ = opd x (evFieldAddr ty s f) := rfl
theorem evOp_field (s : Nat) (x : Operand) (f : Nat) : evOp ty tb lin ⟨d, .field s x f, T, p, af, g⟩ = opd x (evField ty s f) := rfl
def kIxa (t : Nat) (i : Operand) (x : AV) : Rd Out := opd i (evIndexAddr ty t x)
theorem evOp_indexAddr (t : Nat) (x i : Operand) : evOp ty tb lin ⟨d, .indexAddr t x i, T, p, af, g⟩ = opd x (kIxa ty t i) := rfl
def kIdx (t : Nat) (i : Operand) (x : AV) : Rd Out := opd i (evIndex ty t x)
theorem evOp_index (t : Nat) (x i : Operand) : evOp ty tb lin ⟨d, .index t x i, T, p, af, g⟩ = opd x (kIdx ty t i) := rfl
def kExt (i : Nat) : AV → Rd Out
  | .tup l => .ret ⟨i < l.length, .u (l.getD i default), []⟩
  | _ => bad
theorem evOp_extract (x : Operand) (i : Nat) : evOp ty tb lin ⟨d, .extract x i, T, p, af, g⟩ = opd x (kExt i) := by
  refine congrArg (opd x) (funext fun v => ?_)
  cases v <;> rfl
theorem evOp_len (x : Operand) (t : TypeId) : evOp ty tb lin ⟨d, .call ⟨.builtin .len, #[x], #[t]⟩, T, p, af, g⟩ = opd x (evLen ty t) := rfl
def kAp2 (nm t : Nat) (s x : AV) : Rd Out := evAppend ty lin nm t s x
def kAp (nm t : Nat) (x : Operand) (s : AV) : Rd Out := opd x (kAp2 ty lin nm t s)
def kAp0 (nm t : Nat) (s x : Operand) : Option TI → Rd Out
  | some { desc := .slice _, .. } => opd s (kAp ty lin nm t x)
  | _ => bad
theorem evOp_append (s x : Operand) (t u : TypeId) : evOp ty tb lin ⟨d, .call ⟨.builtin .append, #[s, x], #[t, u]⟩, T, p, af, g⟩ = kAp0 ty lin (d.getD 0) t s x (ty u) := by
  show (match ty u with | some { desc := .slice _, .. } => _ | _ => _) = _
  cases ty u with
  | none => rfl
  | some ti => obtain ⟨_, _, _, _, d, _⟩ := ti
               cases d <;> rfl
theorem evOp_max (args : Array Operand) (ts : Array TypeId) : evOp ty tb lin ⟨d, .call ⟨.builtin .max, args, ts⟩, T, p, af, g⟩ = opds args.toList (evMinMax true) := rfl
theorem evOp_min (args : Array Operand) (ts : Array TypeId) : evOp ty tb lin ⟨d, .call ⟨.builtin .min, args, ts⟩, T, p, af, g⟩ = opds args.toList (evMinMax false) := rfl
def kCall2 (nm f : Nat) (caps : List Cap) (vs : List AV) : Rd Out := evCallF tb lin nm f caps vs
def kCall (nm : Nat) (args : List Operand) : AV → Rd Out
  | .u (.c (.clo f caps)) => opds args (kCall2 tb lin nm f caps)
  | _ => bad
theorem evOp_call (f : Operand) (args : Array Operand) (ts : Array TypeId) : evOp ty tb lin ⟨d, .call ⟨.value f, args, ts⟩, T, p, af, g⟩ = opd f (kCall tb lin (d.getD 0) args.toList) := by
  show opd f _ = _
  refine congrArg (opd f) (funext fun v => ?_)
  rcases v with (x | l) | _ | _ <;> first | rfl | (cases x <;> rfl)
def kG (o : Oper) (want : Bool) : AV → Rd Out
  | .u (.c (.d (.bool b))) => underG (b == want) o.op (evOp ty tb false o)
  | .cnd q (.c (.d (.bool b))) => underG (q && (b == want)) o.op (evOp ty tb false o)
  | _ => bad
def kG0 (o : Oper) (want : Bool) : Option Nat → Rd Out
  | none => bad
  | some t => .slot t (kG ty tb o want)
theorem evGuarded_none (ds : List (Option Nat)) (op : Op) : evGuarded ty tb ds ⟨d, op, T, p, af, none⟩ = evOp ty tb true ⟨d, op, T, p, af, none⟩ := rfl
theorem evGuarded_some (ds : List (Option Nat)) (op : Op) (j : Nat) (want : Bool) : evGuarded ty tb ds ⟨d, op, T, p, af, some (j, want)⟩ = kG0 ty tb ⟨d, op, T, p, af, some (j, want)⟩ want (nthD ds j) := by
  show (match nthD ds j with | none => _ | some t => _) = _
  cases nthD ds j with
  | none => rfl
  | some t =>
    refine congrArg (Rd.slot t) (funext fun v => ?_)
    rcases v with (x | l) | _ | ⟨q, (x | l)⟩ <;> first | rfl | (cases x <;> first | rfl | (rename_i y; cases y <;> rfl))
end
def kPg3 (c : Bool) (p x y : AV) : Rd Out := evPickC c p x y
def kPg2 (c : Bool) (y : Operand) (p x : AV) : Rd Out := opd y (kPg3 c p x)
def kPg1 (c : Bool) (x y : Operand) (p : AV) : Rd Out := opd x (kPg2 c y p)
theorem underG_pick (c : Bool) (p x y : Operand) (r : Rd Out) : underG c (.pick p x y) r = opd p (kPg1 c x y) := rfl
theorem underG_move (c : Bool) (x : Operand) (r : Rd Out) : underG c (.move x) r = underC c r := rfl
theorem underG_assign (c : Bool) (x : Operand) (r : Rd Out) : underG c (.assign x) r = underC c r := rfl
theorem underG_build (c : Bool) (t : TypeId) (ps : Array (Nat × Operand)) (r : Rd Out) : underG c (.build t ps) r = underC c r := rfl
theorem underG_buildSlice (c : Bool) (t n : Nat) (ps : Array (Nat × Operand)) (r : Rd Out) : underG c (.buildSlice t n ps) r = underC c r := rfl
theorem underG_load (c : Bool) (t : TypeId) (x : Operand) (r : Rd Out) : underG c (.load t x) r = underC c r := rfl
theorem underG_nil (c : Bool) (x : Operand) (r : Rd Out) : underG c (.nilCheck x) r = underC c r := rfl
theorem underG_bin (c : Bool) (o : BinOp) (t u : TypeId) (x y : Operand) (r : Rd Out) : underG c (.binOp o t x y u) r = underC c r := rfl
theorem underG_un (c : Bool) (o : UnOp) (t : TypeId) (x : Operand) (r : Rd Out) : underG c (.unOp o t x) r = underC c r := rfl
theorem underG_conv (c : Bool) (s t : TypeId) (x : Operand) (r : Rd Out) : underG c (.convert s t x) r = underC c r := rfl
theorem underG_slice (c : Bool) (t : TypeId) (x : Operand) (a b d : Option Operand) (r : Rd Out) : underG c (.slice t x a b d) r = underC c r := rfl
theorem underG_fieldAddr (c : Bool) (t : TypeId) (x : Operand) (i : Nat) (r : Rd Out) : underG c (.fieldAddr t x i) r = underC c r := rfl
theorem underG_field (c : Bool) (t : TypeId) (x : Operand) (i : Nat) (r : Rd Out) : underG c (.field t x i) r = underC c r := rfl
theorem underG_indexAddr (c : Bool) (t : TypeId) (x i : Operand) (r : Rd Out) : underG c (.indexAddr t x i) r = underC c r := rfl
theorem underG_index (c : Bool) (t : TypeId) (x i : Operand) (r : Rd Out) : underG c (.index t x i) r = underC c r := rfl
theorem underG_extract (c : Bool) (x : Operand) (i : Nat) (r : Rd Out) : underG c (.extract x i) r = underC c r := rfl
theorem underG_call (c : Bool) (k : Call) (r : Rd Out) : underG c (.call k) r = underC c r := rfl
theorem underG_makeFunc (c : Bool) (f : Fn) (a b : Array Operand) (r : Rd Out) : underG c (.makeFunc f a b) r = underC c r := rfl
attribute [go_sem] kPg3 kPg2 kPg1 underG_pick underG_move underG_assign underG_build underG_buildSlice underG_load underG_nil underG_bin underG_un underG_conv underG_slice underG_fieldAddr underG_field underG_indexAddr underG_index underG_extract underG_call underG_makeFunc evPickC
def kU (c : Bool) (k : Option Lab → Rd Out) (v : Option Lab) : Rd Out := underC c (k v)
theorem underC_lab (c : Bool) (l : Nat) (k : Option Lab → Rd Out) : underC c (.lab l k) = .lab l (kU c k) := rfl
def kUB (c : Bool) (k : Option (List AC) → Rd Out) (v : Option (List AC)) : Rd Out := underC c (k v)
theorem underC_box (c : Bool) (l : Nat) (k : Option (List AC) → Rd Out) : underC c (.box l k) = .box l (kUB c k) := rfl
def underO (c : Bool) : List Wr → AV → Prop → Rd Out
  | [], .u x, p => .ret ⟨c = true → p, .cnd c x, []⟩
  | _, _, _ => bad
theorem underC_ret (c : Bool) (p : Prop) (v : AV) (ws : List Wr) : underC c (.ret ⟨p, v, ws⟩) = underO c ws v p := by
  cases ws <;> cases v <;> rfl
theorem run_slot (t : Nat) (k : AV → Rd Out) (st : St) : (Rd.slot t k).run st = (k ((lk st.sl t).getD default)).run st := rfl
theorem run_lab (t : Nat) (k : Option Lab → Rd Out) (st : St) : (Rd.lab t k).run st = (k (lk st.lb t)).run st := rfl
theorem run_box (t : Nat) (k : Option (List AC) → Rd Out) (st : St) : (Rd.box t k).run st = (k (lk st.bx t)).run st := rfl
theorem run_ret (a : Out) (st : St) : (Rd.ret a).run st = a := rfl
theorem run_opd_tmp (t : Nat) (f : AV → Rd Out) (st : St) : (opd (.tmp t) f).run st = (f ((lk st.sl t).getD default)).run st := rfl
theorem run_opd_const (v : Value) (f : AV → Rd Out) (st : St) : (opd (.const v) f).run st = (f (ofValue v)).run st := rfl
theorem run_opd_func (g : Nat) (f : AV → Rd Out) (st : St) : (opd (.func g) f).run st = (f (.c (.clo g []))).run st := rfl

attribute [go_sem] kCons kOpds opds_nil opds_cons kD toD_d toD_nils toD_own kDs toDs_nil toDs_cons kCap capDs_ref capDs_sptr kCaps capsDs_nil capsDs_cons kArgC kArgA kArgF toArg_clo toArg_d toArg_nils toArg_own toArg_agg
  kArgs toArgs_nil toArgs_cons kNew3 kNew2 kNew1 newLab_k kNewB3 kNewB2 kNewB1 newBox_k kSh2 kSh shareLabs_nil shareLabs_own shareLabs_d shareLabs_nils shareLabs_clo kNewSl newSl_true newSl_false kLoadB kLoadL kLoad1 kLoad evLoad_k
  kStB kStL2 kStL kSt1 kSt evStore_k kFa2 kFa1 kFa evFieldAddr_k kIx evIndexAddr_own kBs2 kBs1 kBs evBuildSlice_k kSl2 kSl1 evSlice_k kLen kLen1 evLen_k kApp0 kApp1 kApp2 evApp_nils evApp_own kAppd evAppend_k
  kRcD kRcO kRc resCells_nil resCells_d resCells_own resCells_own' kRauC kRauA resAU_c resAU_agg kRas2 kRas resAUs_nil resAUs_cons kCo callOut_k kC3 kC2b kC2 kC1 kC0 evCallF_k
  evOp_move evOp_assign kPick2 kPick1 evOp_pick kAlloc kAlloc0 evOp_alloc kBox2 kBox evOp_box kBuild evOp_build kBuildS evOp_buildSlice evOp_load kSto2 kSto evOp_store kNil evOp_nilCheck kBin evOp_binOp kNeg kNot evOp_neg evOp_not
  kConv evOp_convert kMf2 kMf evOp_makeFunc kMs2 kMs evOp_makeSlice kSlc0 kSlcL2 kSlcL kSlcH2 kSlcH kSlc3 kSlc2 kSlc1 evOp_slice0 evOp_sliceL evOp_sliceH evOp_slice evOp_fieldAddr evOp_field kIxa evOp_indexAddr kIdx evOp_index kExt evOp_extract
  evOp_len kAp2 kAp kAp0 evOp_append evOp_max evOp_min kCall2 kCall evOp_call kG kG0 evGuarded_none evGuarded_some kU underC_lab kUB underC_box underO underC_ret run_slot run_lab run_box run_ret run_opd_tmp run_opd_const run_opd_func
end Go.Abs

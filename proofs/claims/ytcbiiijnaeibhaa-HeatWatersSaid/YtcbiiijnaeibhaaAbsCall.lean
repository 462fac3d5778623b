/-
  Contracts ('Valid') and calls.
-/
import Derived.Test.YtcbiiijnaeibhaaAbsSound9
set_option linter.unusedVariables false
set_option linter.unusedSimpArgs false
namespace Go.Abs

def RArg (w : World) (S : Nat → Prop) : Arg → Value → Prop
  | .c x, v => RD w S x v
  | .agg l, v => ∃ vs, v = .agg vs ∧ vs.size = l.length ∧ ∀ i, i < l.length → ∃ u, vs[i]? = some u ∧ RD w S (l.getD i .undef) u
  | .ptr l, v => Ptr w S l 0 v
  | .clo f caps, v => ∃ vs, v = .func (.func f) #[] vs ∧ vs.size = caps.length ∧ ∀ i, i < caps.length → ∃ u, vs[i]? = some u ∧ Ptr w S (caps.getD i []) 0 u

def RArgs (w : World) (S : Nat → Prop) : List Arg → List Value → Prop
  | [], [] => True
  | x :: r, v :: vs => RArg w S x v ∧ RArgs w S r vs
  | _, _ => False

def RC.isOwn : RC → Bool | .own _ => true | _ => false
def nOwn : List RC → Nat
  | [] => 0
  | .own _ :: r => nOwn r + 1
  | .d _ :: r => nOwn r
def RV.cells : RV → List RC | .c x => [x] | .agg l => l

def RRcs (w : World) (S : Nat → Prop) (own : Nat → Option Nat) : Nat → List RC → List Value → Prop
  | _, [], [] => True
  | j, .d x :: r, v :: vs => RD w S x v ∧ RRcs w S own j r vs
  | j, .own x :: r, v :: vs => (x.isSl = true ∧ Hdl w (own j) x v ∧ ∀ B, own j = some B → Row w S B x) ∧ RRcs w S own (j + 1) r vs
  | _, _, _ => False
def RRv (w : World) (S : Nat → Prop) (own : Nat → Option Nat) (j : Nat) : RV → Value → Prop
  | .c x, v => RRcs w S own j [x] [v]
  | .agg l, v => ∃ vs, v = .agg vs ∧ RRcs w S own j l vs.toList
def RRvs (w : World) (S : Nat → Prop) (own : Nat → Option Nat) : Nat → List RV → List Value → Prop
  | _, [], [] => True
  | j, r :: rs, v :: vs => RRv w S own j r v ∧ RRvs w S own (j + nOwn r.cells) rs vs
  | _, _, _ => False
def RRes (w : World) (S : Nat → Prop) (own : Nat → Option Nat) (rs : List RV) (v : Value) : Prop :=
  match rs with
  | [r] => RRv w S own 0 r v
  | rs => ∃ vs, v = .tuple vs ∧ RRvs w S own 0 rs vs.toList

/-- What a call may leave behind: its result, in memory that was there (where the spec allows it) or in new memory. -/
structure Left (w w' : World) (S0 : Nat → Prop) (sp : FSpec) (args : List Arg) (v : Value) : Prop where
  env : SameEnv w w'
  size : w.heap.size ≤ w'.heap.size
  old : ∀ B, B < w.heap.size → w'.heap[B]? = w.heap[B]?
  res : ∃ own : Nat → Option Nat, (∀ j B, own j = some B → w.heap.size ≤ B ∧ B < w'.heap.size) ∧ (∀ i j B, own i = some B → own j = some B → i = j) ∧
    RRes w' (fun B => ((sp.alias = true ∧ S0 B) ∨ w.heap.size ≤ B) ∧ ∀ j, own j ≠ some B) own (sp.res args) v

/-- THE CONTRACT of a function. -/
def Valid (P : Program) (f : Nat) (sp : FSpec) : Prop :=
  ∀ (S0 : Nat → Prop) (w : World) (args : List Arg) (vs : Array Value), (∀ B, S0 B → B < w.heap.size) → RArgs w S0 args vs.toList → sp.pre args →
    Calls P f vs w fun e w' => ∃ v, e = .returned v ∧ Left w w' S0 sp args v

structure FnFact (P : Program) (f : Nat) (sp : FSpec) : Prop where
  enter : ∃ fn, P.funcs[f]? = some fn ∧ (fn.name == "runtime.NumGoroutine") = false ∧ fn.body.isNone = false
  valid : Valid P f sp
def FnsOk (P : Program) (tb : Fns) : Prop := ∀ f sp, tb f = some sp → FnFact P f sp

section
variable {P : Program} {ty : Tys} {tb : Fns} {cx : Cx} {st : St} {m m1 m' : Mp} {a : Act} {w w' : World} {o : Oper} {out : Out}

/-- MANY NEW LABELS at once. -/
theorem Rel.newLabs (R : Rel cx st m a w) (N : Nat → Option D) (ow : Nat → Option Nat) {lb : List (Nat × Lab)} (hs : w.heap.size ≤ w'.heap.size) (he : SameEnv w w')
    (hold : ∀ B, B < w.heap.size → w'.heap[B]? = w.heap[B]?)
    (hN1 : ∀ k x, N k = some x → lk st.lb k = none ∧ lk lb k = some (.owned x) ∧ x.isSl = true ∧ ∀ B, ow k = some B → w.heap.size ≤ B ∧ B < w'.heap.size ∧ Row w' (fun B' => Sof cx m B' ∧ ∀ k, ow k ≠ some B') B x)
    (hN2 : ∀ k, N k = none → lk lb k = lk st.lb k ∧ ow k = none) (hinj : ∀ k k' B, ow k = some B → ow k' = some B → k = k') :
    Rel cx ⟨st.sl, st.bx, lb⟩ ⟨fun k => (match N k with | some _ => ow k | none => m.own k), m.box⟩ a w' := by
  have hcase : ∀ k B, (match N k with | some _ => ow k | none => m.own k) = some B → (ow k = some B ∧ ∃ x, N k = some x) ∨ (N k = none ∧ m.own k = some B) := by
    intro k B h
    cases hn : N k with
    | none => simp only [hn] at h; exact .inr ⟨rfl, h⟩
    | some x => simp only [hn] at h; exact .inl ⟨h, x, rfl⟩
  have hnew : ∀ k B, ow k = some B → w.heap.size ≤ B ∧ B < w'.heap.size := by
    intro k B h
    cases hn : N k with
    | none => rw [(hN2 k hn).2] at h; cases h
    | some x => exact ⟨((hN1 k x hn).2.2.2 B h).1, ((hN1 k x hn).2.2.2 B h).2.1⟩
  have hsub : ∀ B', Sof cx m B' → (∀ k, ow k ≠ some B') → Sof cx ⟨fun k => (match N k with | some _ => ow k | none => m.own k), m.box⟩ B' := fun B' h hne => ⟨h.1, fun k hk => by
    rcases hcase k B' hk with ⟨h1, _⟩ | ⟨_, h1⟩
    · exact hne k h1
    · exact h.2.1 k h1, h.2.2⟩
  have hm : Move cx m w (lk st.lb) ⟨fun k => (match N k with | some _ => ow k | none => m.own k), m.box⟩ w' (lk lb) := by
    refine ⟨⟨hs, fun B hB _ => hold B hB, fun B hB hS => hsub B hS (fun k h => by have := hnew k B h; omega)⟩, fun _ _ h => h, fun k => ?_⟩
    simp only [LabOk]
    cases hl : lk st.lb k with
    | none => trivial
    | some L =>
      have hn : N k = none := by
        cases hn : N k with
        | none => rfl
        | some x => rw [(hN1 k x hn).1] at hl; cases hl
      have hlk := (hN2 k hn).1
      cases L with
      | dead => simp [hlk, hl]
      | shared x => simp [hlk, hl]
      | owned x => exact .inr (.inl ⟨x, by rw [hlk, hl], rfl, rfl, by simp only [hn], fun B hB => .of_eq (hold B (R.ownb k B hB).2)⟩)
  refine R.of_move he hm (fun B hB => hold B (Nat.lt_of_lt_of_le hB R.size)) (fun b cs hb => ?_) R.nobox (fun k y hy => ?_) (fun k hk => ?_) ?_
    (fun b B hb => ⟨(R.boxb b B hb).1, Nat.lt_of_lt_of_le (R.boxb b B hb).2 hs⟩) ?_ R.injb ?_
  · obtain ⟨B, c, T, h1, h2, h3, h4⟩ := R.boxes b cs hb
    refine ⟨B, c, T, h1, by rw [hold B (R.boxb b B h1).2]; exact h2, h3, fun j hj => ?_⟩
    obtain ⟨u, hu, hr⟩ := h4 j hj
    exact ⟨u, hu, hr.move hm⟩
  · cases hn : N k with
    | none =>
      rw [(hN2 k hn).1] at hy
      refine ⟨(R.owned k y hy).1, fun B h => ?_⟩
      simp only [hn] at h
      exact ((R.owned k y hy).2 B h).ext hm.ext (hold B (R.ownb k B h).2)
    | some x =>
      obtain ⟨h1, h2, h3, h4⟩ := hN1 k x hn
      rw [h2] at hy
      obtain ⟨⟩ := Option.some.inj hy
      refine ⟨h3, fun B h => ?_⟩
      simp only [hn] at h
      exact Row.ext ⟨Nat.le_refl _, fun _ _ _ => rfl, fun B' _ h => hsub B' h.1 h.2⟩ rfl (h4 B h).2.2
  · cases hn : N k with
    | none =>
      simp only [hn]
      exact R.noown k (fun y hy => hk y (by rw [(hN2 k hn).1]; exact hy))
    | some x => exact absurd (hN1 k x hn).2.1 (hk x)
  · intro k B h
    rcases hcase k B h with ⟨h1, _⟩ | ⟨_, h1⟩
    · exact ⟨Nat.le_trans R.size (hnew k B h1).1, (hnew k B h1).2⟩
    · exact ⟨(R.ownb k B h1).1, Nat.lt_of_lt_of_le (R.ownb k B h1).2 hs⟩
  · intro k1 k2 B h1 h2
    rcases hcase k1 B h1 with ⟨g1, _⟩ | ⟨_, g1⟩ <;> rcases hcase k2 B h2 with ⟨g2, _⟩ | ⟨_, g2⟩
    · exact hinj _ _ _ g1 g2
    · have := hnew k1 B g1; have := R.ownb k2 B g2; omega
    · have := hnew k2 B g2; have := R.ownb k1 B g1; omega
    · exact R.injo _ _ _ g1 g2
  · intro k b B h1 h2
    rcases hcase k B h1 with ⟨g1, _⟩ | ⟨_, g1⟩
    · have := hnew k B g1; have := R.boxb b B h2; omega
    · exact R.dis k b B g1 h2

/-- arguments, as 'toArg' reads them -/
def CapOf (st : St) : Cap → List D → Prop
  | .ref b 0, ds => ∃ cs, lk st.bx b = some cs ∧ DsOf (lk st.lb) cs ds
  | .sptr l 0, ds => ds = l
  | _, _ => False
def CapsOf (st : St) : List Cap → List (List D) → Prop
  | [], [] => True
  | c :: r, d :: ds => CapOf st c d ∧ CapsOf st r ds
  | _, _ => False
def ArgOf (st : St) (v : AV) (x : Arg) : Prop :=
  (∃ g caps ds, v = .u (.c (.clo g caps)) ∧ x = .clo g ds ∧ CapsOf st caps ds) ∨ (∃ y d, v = .u (.c y) ∧ x = .c d ∧ DOf (lk st.lb) y d) ∨ (∃ l ds, v = .u (.agg l) ∧ x = .agg ds ∧ DsOf (lk st.lb) l ds)
def ArgsOf (st : St) : List AV → List Arg → Prop
  | [], [] => True
  | v :: r, x :: xs => ArgOf st v x ∧ ArgsOf st r xs
  | _, _ => False

theorem run_capDs (st : St) (x : Cap) (f : List D → Rd Out) : (∃ d, CapOf st x d ∧ (capDs x f).run st = (f d).run st) ∨ (capDs x f).run st = ⟨False, default, []⟩ := by
  unfold capDs
  split
  · rename_i b
    simp only [Rd.run]
    split
    · rename_i cs hb
      rcases run_toDs st cs f with ⟨ds, hds, h⟩ | h
      · exact .inl ⟨ds, ⟨cs, hb, hds⟩, h⟩
      · exact .inr h
    · exact .inr rfl
  · exact .inl ⟨_, rfl, rfl⟩
  · exact .inr rfl
theorem run_capsDs (st : St) (l : List Cap) (f : List (List D) → Rd Out) : (∃ d, CapsOf st l d ∧ (capsDs l f).run st = (f d).run st) ∨ (capsDs l f).run st = ⟨False, default, []⟩ := by
  induction l generalizing f with
  | nil => exact .inl ⟨[], trivial, rfl⟩
  | cons x r ih =>
    simp only [capsDs]
    rcases run_capDs st x (fun d => capsDs r fun ds => f (d :: ds)) with ⟨d, hd, h⟩ | h
    · rw [h]
      rcases ih (fun ds => f (d :: ds)) with ⟨ds, hds, h2⟩ | h2
      · exact .inl ⟨d :: ds, ⟨hd, hds⟩, h2⟩
      · exact .inr h2
    · exact .inr h
theorem run_toArg (st : St) (v : AV) (f : Arg → Rd Out) : (∃ x, ArgOf st v x ∧ (toArg v f).run st = (f x).run st) ∨ (toArg v f).run st = ⟨False, default, []⟩ := by
  unfold toArg
  split
  · rename_i g caps
    rcases run_capsDs st caps (fun ds => f (.clo g ds)) with ⟨ds, hds, h⟩ | h
    · exact .inl ⟨_, .inl ⟨g, caps, ds, rfl, rfl, hds⟩, h⟩
    · exact .inr h
  · rename_i y _
    rcases run_toD st y (fun d => f (.c d)) with ⟨d, hd, h⟩ | h
    · exact .inl ⟨_, .inr (.inl ⟨y, d, rfl, rfl, hd⟩), h⟩
    · exact .inr h
  · rename_i l
    rcases run_toDs st l (fun ds => f (.agg ds)) with ⟨ds, hd, h⟩ | h
    · exact .inl ⟨_, .inr (.inr ⟨l, ds, rfl, rfl, hd⟩), h⟩
    · exact .inr h
  · exact .inr rfl
theorem run_toArgs (st : St) (l : List AV) (f : List Arg → Rd Out) : (∃ xs, ArgsOf st l xs ∧ (toArgs l f).run st = (f xs).run st) ∨ (toArgs l f).run st = ⟨False, default, []⟩ := by
  induction l generalizing f with
  | nil => exact .inl ⟨[], trivial, rfl⟩
  | cons x r ih =>
    simp only [toArgs]
    rcases run_toArg st x (fun d => toArgs r fun ds => f (d :: ds)) with ⟨d, hd, h⟩ | h
    · rw [h]
      rcases ih (fun ds => f (d :: ds)) with ⟨ds, hds, h2⟩ | h2
      · exact .inl ⟨d :: ds, ⟨hd, hds⟩, h2⟩
      · exact .inr h2
    · exact .inr h

theorem Rel.cap (R : Rel cx st m a w) {c : Cap} {d : List D} {v : Value} (hd : CapOf st c d) (hx : RCap cx m w c v) : Ptr w (Known cx w) d 0 v := by
  unfold CapOf at hd
  split at hd
  · rename_i b
    obtain ⟨cs, hb, hds⟩ := hd
    obtain ⟨B, hB, rfl⟩ := hx
    obtain ⟨B', c, T, h1, h2, h3, h4⟩ := R.boxes b cs hb
    obtain rfl : B = B' := Option.some.inj (hB.symm.trans h1)
    have hk := R.boxb b B hB
    refine ⟨B, 0, rfl, hk.2, ⟨hk.2, .inr hk.1⟩, fun j hj => ?_⟩
    rw [hds.1] at hj
    obtain ⟨u, hu, hr⟩ := h4 j hj
    exact ⟨u, by simp [World.cell?, h2, hu], R.dof (hds.2 j hj) hr⟩
  · subst hd; exact Ptr.ext (known_ext cx m w) hx
  · exact hd.elim

theorem Rel.caps (R : Rel cx st m a w) : ∀ {cs : List Cap} {ds : List (List D)} {vs : List Value}, CapsOf st cs ds → vs.length = cs.length → (∀ i, i < cs.length → ∃ u, vs[i]? = some u ∧ RCap cx m w (cs.getD i (.ref 0 0)) u) →
    ds.length = cs.length ∧ ∀ i, i < ds.length → ∃ u, vs[i]? = some u ∧ Ptr w (Known cx w) (ds.getD i []) 0 u
  | [], [], _, _, _, _ => ⟨rfl, fun i hi => by simp at hi⟩
  | [], _ :: _, _, h, _, _ => h.elim
  | _ :: _, [], _, h, _, _ => h.elim
  | c :: cs, d :: ds, [], _, hl, _ => by simp at hl
  | c :: cs, d :: ds, v :: vs, h, hl, hv => by
    obtain ⟨h1, h2⟩ := Rel.caps R h.2 (by simpa using hl) (fun i hi => by simpa using hv (i + 1) (by simpa using hi))
    refine ⟨by simp [h1], fun i hi => ?_⟩
    cases i with
    | zero =>
      obtain ⟨u, hu, hr⟩ := hv 0 (by simp)
      exact ⟨u, hu, R.cap h.1 hr⟩
    | succ i => simpa using h2 i (by simpa using hi)

theorem Rel.arg (R : Rel cx st m a w) {v : AV} {x : Arg} {u : Value} (h : ArgOf st v x) (hv : RA cx m w (lk st.lb) v u) : RArg w (Known cx w) x u := by
  rcases h with ⟨g, caps, ds, rfl, rfl, h⟩ | ⟨y, d, rfl, rfl, h⟩ | ⟨l, ds, rfl, rfl, h⟩
  · obtain ⟨vs, rfl, hsz, hc⟩ := hv
    obtain ⟨h1, h2⟩ := R.caps (vs := vs.toList) h (by simpa using hsz) (fun i hi => by simpa using hc i hi)
    exact ⟨vs, rfl, by rw [hsz, h1], fun i hi => by simpa using h2 i hi⟩
  · exact R.dof h hv
  · obtain ⟨vs, rfl, hsz, hc⟩ := hv
    refine ⟨vs, rfl, by rw [hsz, h.1], fun i hi => ?_⟩
    rw [h.1] at hi
    obtain ⟨u, hu, hr⟩ := hc i hi
    exact ⟨u, hu, R.dof (h.2 i hi) hr⟩

/-- results, as 'resAUs' names them -/
def CsOf (lin : Bool) : List RC → List AC → List (Nat × D) → Prop
  | [], [], [] => True
  | .d x :: r, .d y :: cs, ls => x = y ∧ CsOf lin r cs ls
  | .own x :: r, .own k :: cs, p :: ls => (lin = true ∧ k = p.1 ∧ x = p.2) ∧ CsOf lin r cs ls
  | .own x :: r, .d y :: cs, ls => (lin = false ∧ x = y) ∧ CsOf lin r cs ls
  | _, _, _ => False
def AuOf (lin : Bool) : RV → AU → List (Nat × D) → Prop
  | .c x, .c y, ls => CsOf lin [x] [y] ls
  | .agg l, .agg cs, ls => CsOf lin l cs ls
  | _, _, _ => False
def AusOf (lin : Bool) : List RV → List AU → List (Nat × D) → Prop
  | [], [], ls => ls = []
  | r :: rs, x :: xs, ls => ∃ l1 l2, ls = l1 ++ l2 ∧ AuOf lin r x l1 ∧ AusOf lin rs xs l2
  | _, _, _ => False

theorem run_resCells (st : St) (lin : Bool) (nm : Nat) (l : List RC) : ∀ (j : Nat) (f : Nat → List AC → List (Nat × D) → Rd Out),
    (∃ j' cs ls, (resCells lin nm j l f).run st = (f j' cs ls).run st ∧ (∀ p ∈ ls, lk st.lb p.1 = none) ∧ CsOf lin l cs ls) ∨ (resCells lin nm j l f).run st = ⟨False, default, []⟩ := by
  induction l with
  | nil => intro j f; exact .inl ⟨j, [], [], rfl, by simp, trivial⟩
  | cons x r ih =>
    intro j f
    cases x with
    | d x =>
      simp only [resCells]
      rcases ih j (fun j cs ls => f j (.d x :: cs) ls) with ⟨j', cs, ls, h1, h2, h3⟩ | h
      · exact .inl ⟨j', .d x :: cs, ls, h1, h2, rfl, h3⟩
      · exact .inr h
    | own x =>
      simp only [resCells]
      cases lin with
      | true =>
        simp only [if_true]
        rcases run_newLab st (nm + 10000 * j) (fun k => resCells true nm (j + 1) r fun j cs ls => f j (.own k :: cs) ((k, x) :: ls)) with ⟨k, hk, h⟩ | h
        · rw [h]
          rcases ih (j + 1) (fun j cs ls => f j (.own k :: cs) ((k, x) :: ls)) with ⟨j', cs, ls, h1, h2, h3⟩ | h
          · refine .inl ⟨j', .own k :: cs, (k, x) :: ls, h1, fun p hp => ?_, ⟨rfl, rfl, rfl⟩, h3⟩
            rcases List.mem_cons.1 hp with rfl | hp
            · exact hk
            · exact h2 p hp
          · exact .inr h
        · exact .inr h
      | false =>
        simp only [Bool.false_eq_true, if_false]
        rcases ih j (fun j cs ls => f j (.d x :: cs) ls) with ⟨j', cs, ls, h1, h2, h3⟩ | h
        · exact .inl ⟨j', .d x :: cs, ls, h1, h2, ⟨rfl, rfl⟩, h3⟩
        · exact .inr h

theorem CsOf.len {lin : Bool} : ∀ {l : List RC} {cs : List AC} {ls : List (Nat × D)}, CsOf lin l cs ls → cs.length = l.length
  | [], [], [], _ => rfl
  | [], [], _ :: _, h => h.elim
  | [], _ :: _, _, h => by cases ‹List (Nat × D)› <;> exact h.elim
  | .d x :: r, [], ls, h => by cases ls <;> exact h.elim
  | .d x :: r, .d y :: cs, ls, h => by have := CsOf.len h.2; simp [this]
  | .d x :: r, .undef :: cs, ls, h => by cases ls <;> exact h.elim
  | .d x :: r, .nils :: cs, ls, h => by cases ls <;> exact h.elim
  | .d x :: r, .own _ :: cs, ls, h => by cases ls <;> exact h.elim
  | .d x :: r, .ref _ _ :: cs, ls, h => by cases ls <;> exact h.elim
  | .d x :: r, .optr _ _ _ :: cs, ls, h => by cases ls <;> exact h.elim
  | .d x :: r, .sptr _ _ :: cs, ls, h => by cases ls <;> exact h.elim
  | .d x :: r, .clo _ _ :: cs, ls, h => by cases ls <;> exact h.elim
  | .own x :: r, [], ls, h => by cases ls <;> exact h.elim
  | .own x :: r, .d y :: cs, ls, h => by
    cases ls <;> (have := CsOf.len h.2; simp [this])
  | .own x :: r, .own k :: cs, [], h => h.elim
  | .own x :: r, .own k :: cs, p :: ls, h => by have := CsOf.len h.2; simp [this]
  | .own x :: r, .undef :: cs, ls, h => by cases ls <;> exact h.elim
  | .own x :: r, .nils :: cs, ls, h => by cases ls <;> exact h.elim
  | .own x :: r, .ref _ _ :: cs, ls, h => by cases ls <;> exact h.elim
  | .own x :: r, .optr _ _ _ :: cs, ls, h => by cases ls <;> exact h.elim
  | .own x :: r, .sptr _ _ :: cs, ls, h => by cases ls <;> exact h.elim
  | .own x :: r, .clo _ _ :: cs, ls, h => by cases ls <;> exact h.elim

theorem run_resAU (st : St) (lin : Bool) (nm : Nat) (r : RV) (j : Nat) (f : Nat → AU → List (Nat × D) → Rd Out) :
    (∃ j' x ls, (resAU lin nm j r f).run st = (f j' x ls).run st ∧ (∀ p ∈ ls, lk st.lb p.1 = none) ∧ AuOf lin r x ls) ∨ (resAU lin nm j r f).run st = ⟨False, default, []⟩ := by
  cases r with
  | c x =>
    simp only [resAU]
    rcases run_resCells st lin nm [x] j (fun j cs ls => f j (.c (cs.getD 0 .undef)) ls) with ⟨j', cs, ls, h1, h2, h3⟩ | h
    · have hl := h3.len
      match cs, hl with
      | [c], _ => exact .inl ⟨j', _, ls, h1, h2, h3⟩
    · exact .inr h
  | agg l =>
    simp only [resAU]
    rcases run_resCells st lin nm l j (fun j cs ls => f j (.agg cs) ls) with ⟨j', cs, ls, h1, h2, h3⟩ | h
    · exact .inl ⟨j', _, ls, h1, h2, h3⟩
    · exact .inr h
theorem run_resAUs (st : St) (lin : Bool) (nm : Nat) (rs : List RV) : ∀ (j : Nat) (f : List AU → List (Nat × D) → Rd Out),
    (∃ xs ls, (resAUs lin nm j rs f).run st = (f xs ls).run st ∧ (∀ p ∈ ls, lk st.lb p.1 = none) ∧ AusOf lin rs xs ls) ∨ (resAUs lin nm j rs f).run st = ⟨False, default, []⟩ := by
  induction rs with
  | nil => intro j f; exact .inl ⟨[], [], rfl, by simp, rfl⟩
  | cons r rs ih =>
    intro j f
    simp only [resAUs]
    rcases run_resAU st lin nm r j (fun j x ls => resAUs lin nm j rs fun xs ls' => f (x :: xs) (ls ++ ls')) with ⟨j', x, l1, h1, h2, h3⟩ | h
    · rw [h1]
      rcases ih j' (fun xs ls' => f (x :: xs) (l1 ++ ls')) with ⟨xs, l2, g1, g2, g3⟩ | h
      · refine .inl ⟨x :: xs, l1 ++ l2, g1, fun p hp => ?_, l1, l2, rfl, h3, g3⟩
        rcases List.mem_append.1 hp with hp | hp
        · exact h2 p hp
        · exact g2 p hp
      · exact .inr h
    · exact .inr h

theorem CsOf.nil : ∀ {l : List RC} {cs : List AC} {ls : List (Nat × D)}, CsOf false l cs ls → ls = [] := by
  intro l
  induction l with
  | nil => intro cs ls h1; cases cs <;> cases ls <;> first | rfl | exact h1.elim
  | cons x r ih =>
    intro cs ls h1
    cases cs with
    | nil => cases x <;> cases ls <;> exact h1.elim
    | cons c cs =>
      cases x with
      | d x => cases c <;> first | exact ih h1.2 | (cases ls <;> exact h1.elim)
      | own x =>
        cases c with
        | d y => exact ih (cs := cs) (ls := ls) (by cases ls <;> exact h1.2)
        | own k =>
          cases ls with
          | nil => exact h1.elim
          | cons p ls => exact absurd h1.1.1 (by simp)
        | _ => cases ls <;> exact h1.elim

/-- the cells of results, in the caller's state -/
theorem cells_rel {S : Nat → Prop} {own : Nat → Option Nat} {lin : Bool} {lb : Nat → Option Lab} (hS : Ext w' w' S (Sof cx m')) (hnl : lin = false → ∀ j B, own j = some B → Sof cx m' B ∧ B < w'.heap.size) :
    ∀ {l : List RC} {cs : List AC} {ls : List (Nat × D)} {vs : List Value} {j : Nat}, CsOf lin l cs ls → RRcs w' S own j l vs →
      (∀ i p, ls[i]? = some p → m'.own p.1 = own (j + i) ∧ lb p.1 = some (.owned p.2)) →
      vs.length = cs.length ∧ (lin = true → ls.length = nOwn l) ∧ ∀ i, i < cs.length → ∃ u, vs[i]? = some u ∧ RCl cx m' w' lb (cs.getD i .undef) u := by
  intro l
  induction l with
  | nil =>
    intro cs ls vs j h1 h2 h3
    cases cs with
    | nil =>
      cases ls with
      | nil =>
        cases vs with
        | nil => exact ⟨rfl, fun _ => rfl, fun i hi => by simp at hi⟩
        | cons _ _ => exact h2.elim
      | cons _ _ => exact h1.elim
    | cons _ _ => cases ls <;> exact h1.elim
  | cons x r ih =>
    intro cs ls vs j h1 h2 h3
    cases vs with
    | nil => cases x <;> exact h2.elim
    | cons v vs =>
      cases cs with
      | nil => cases x <;> cases ls <;> exact h1.elim
      | cons c cs =>
        cases x with
        | d x =>
          have hc : c = .d x ∧ CsOf lin r cs ls := by
            cases c <;> first | exact ⟨by rw [h1.1], h1.2⟩ | (cases ls <;> exact h1.elim)
          obtain ⟨rfl, hc⟩ := hc
          obtain ⟨g1, g2, g3⟩ := ih hc h2.2 h3
          refine ⟨by simp [g1], fun h => g2 h, fun i hi => ?_⟩
          cases i with
          | zero => exact ⟨v, rfl, h2.1.ext hS⟩
          | succ i => simpa using g3 i (by simpa using hi)
        | own x =>
          obtain ⟨⟨hx, hh, hrow⟩, h2⟩ := h2
          cases c with
          | d y =>
            have h1' : (lin = false ∧ x = y) ∧ CsOf lin r cs ls := by cases ls <;> exact h1
            obtain ⟨⟨hlin, rfl⟩, h1'⟩ := h1'
            obtain ⟨g1, g2, g3⟩ := ih h1' h2 (fun i p hp => by
              subst hlin
              rw [h1'.nil] at hp; simp at hp)
            refine ⟨by simp [g1], fun h => absurd (hlin.symm.trans h) (by simp), fun i hi => ?_⟩
            cases i with
            | zero =>
              refine ⟨v, rfl, ?_⟩
              show RD w' (Sof cx m') x v
              cases ho : own j with
              | none =>
                rw [ho] at hh
                obtain ⟨rfl, hn⟩ := hh
                rw [D.eta hx, hn]; exact .sl0 _ _ _ _
              | some B =>
                rw [ho] at hh
                obtain ⟨cap, c, T, rfl, _, _, hle⟩ := hh
                obtain ⟨hS1, hB⟩ := hnl hlin j B ho
                exact row_rd ((hrow B ho).ext hS rfl) hS1 hB hle
            | succ i => simpa using g3 i (by simpa using hi)
          | own k =>
            cases ls with
            | nil => exact h1.elim
            | cons p ls =>
              obtain ⟨⟨hlin, rfl, rfl⟩, h1⟩ := h1
              obtain ⟨g1, g2, g3⟩ := ih h1 h2 (fun i p hp => by
                have := h3 (i + 1) p (by simpa using hp)
                rwa [show j + (i + 1) = j + 1 + i by omega] at this)
              refine ⟨by simp [g1], fun h => by simp [nOwn, g2 h], fun i hi => ?_⟩
              cases i with
              | zero =>
                refine ⟨v, rfl, ?_⟩
                obtain ⟨e1, e2⟩ := h3 0 p rfl
                simp only [List.getD_cons_zero, RCl, e2]
                rw [e1]; exact hh
              | succ i => simpa using g3 i (by simpa using hi)
          | _ => cases ls <;> exact h1.elim

theorem aus_rel {S : Nat → Prop} {own : Nat → Option Nat} {lin : Bool} {lb : Nat → Option Lab} (hS : Ext w' w' S (Sof cx m')) (hnl : lin = false → ∀ j B, own j = some B → Sof cx m' B ∧ B < w'.heap.size) :
    ∀ {rs : List RV} {xs : List AU} {ls : List (Nat × D)} {vs : List Value} {j : Nat}, AusOf lin rs xs ls → RRvs w' S own j rs vs →
      (∀ i p, ls[i]? = some p → m'.own p.1 = own (j + i) ∧ lb p.1 = some (.owned p.2)) →
      vs.length = xs.length ∧ ∀ i, i < xs.length → ∃ u, vs[i]? = some u ∧ RU cx m' w' lb (xs.getD i (.c .undef)) u := by
  intro rs
  induction rs with
  | nil =>
    intro xs ls vs j h1 h2 h3
    cases xs with
    | nil => cases vs with
      | nil => exact ⟨rfl, fun i hi => by simp at hi⟩
      | cons _ _ => exact h2.elim
    | cons _ _ => exact h1.elim
  | cons r rs ih =>
    intro xs ls vs j h1 h2 h3
    cases xs with
    | nil => exact h1.elim
    | cons x xs =>
      cases vs with
      | nil => exact h2.elim
      | cons v vs =>
        obtain ⟨l1, l2, rfl, hx, hxs⟩ := h1
        obtain ⟨hv, hvs⟩ := h2
        have hone : ∃ (_ : lin = true → l1.length = nOwn r.cells), RU cx m' w' lb x v := by
          have h3' : ∀ i p, l1[i]? = some p → m'.own p.1 = own (j + i) ∧ lb p.1 = some (.owned p.2) := fun i p hp => h3 i p (by
            rw [List.getElem?_append_left (List.getElem?_eq_some_iff.1 hp).1]; exact hp)
          cases r with
          | c r =>
            cases x with
            | c x =>
              obtain ⟨g1, g2, g3⟩ := cells_rel hS hnl hx hv h3'
              obtain ⟨u, hu, hr⟩ := g3 0 (by simp)
              obtain rfl : v = u := by simpa using hu
              exact ⟨g2, hr⟩
            | agg _ => exact hx.elim
          | agg l =>
            cases x with
            | c x => exact hx.elim
            | agg cs =>
              obtain ⟨us, rfl, hus⟩ := hv
              obtain ⟨g1, g2, g3⟩ := cells_rel hS hnl hx hus h3'
              exact ⟨g2, us, rfl, by simpa using g1, fun i hi => by simpa using g3 i hi⟩
        obtain ⟨hn, hru⟩ := hone
        obtain ⟨g1, g2⟩ := ih hxs hvs (fun i p hp => by
          have hp' : (l1 ++ l2)[l1.length + i]? = some p := by rw [List.getElem?_append_right (by omega)]; simpa using hp
          have := h3 _ p hp'
          cases lin with
          | true => rwa [hn rfl, ← Nat.add_assoc] at this
          | false =>
            exfalso
            have : ∀ {rs : List RV} {xs : List AU} {l2 : List (Nat × D)}, AusOf false rs xs l2 → l2 = [] := by
              intro rs
              induction rs with
              | nil => intro xs l2 h; cases xs <;> first | exact h | exact h.elim
              | cons r rs ih2 =>
                intro xs l2 h
                cases xs with
                | nil => exact h.elim
                | cons x xs =>
                  obtain ⟨a1, a2, rfl, b1, b2⟩ := h
                  have e2 := ih2 b2
                  have e1 : a1 = [] := by
                    cases r <;> cases x <;> first | exact CsOf.nil b1 | exact b1.elim
                  rw [e1, e2]; rfl
            rw [this hxs] at hp; simp at hp)
        refine ⟨by simp [g1], fun i hi => ?_⟩
        cases i with
        | zero => exact ⟨v, rfl, hru⟩
        | succ i => simpa using g2 i (by simpa using hi)

/-- labels and their places -/
def ixOf : List (Nat × D) → Nat → Option (Nat × D)
  | [], _ => none
  | (k', x) :: r, k => if k' = k then some (0, x) else (ixOf r k).map fun p => (p.1 + 1, p.2)
theorem ixOf_none {ls : List (Nat × D)} {k : Nat} (h : ixOf ls k = none) : ∀ lb : List (Nat × Lab), lk ((ls.reverse.map fun p => (p.1, Lab.owned p.2)) ++ lb) k = lk lb k := by
  induction ls with
  | nil => intro lb; rfl
  | cons p r ih =>
    intro lb
    obtain ⟨k', x⟩ := p
    simp only [ixOf] at h
    split at h
    · cases h
    · rename_i hne
      have hr : ixOf r k = none := by cases hq : ixOf r k <;> simp_all
      simp only [List.reverse_cons, List.map_append, List.map_cons, List.map_nil, List.append_assoc, List.singleton_append]
      rw [ih hr, lk_other (Ne.symm hne)]
theorem ixOf_some {ls : List (Nat × D)} : ∀ {k i : Nat} {x : D}, (ls.map (·.1)).Nodup → ixOf ls k = some (i, x) → ls[i]? = some (k, x) ∧ ∀ lb : List (Nat × Lab), lk ((ls.reverse.map fun p => (p.1, Lab.owned p.2)) ++ lb) k = some (.owned x) := by
  induction ls with
  | nil => intro k i x _ h; cases h
  | cons p r ih =>
    intro k i x hnd h
    obtain ⟨k', y⟩ := p
    simp only [List.map_cons, List.nodup_cons] at hnd
    simp only [ixOf] at h
    simp only [List.reverse_cons, List.map_append, List.map_cons, List.map_nil, List.append_assoc, List.singleton_append]
    split at h
    · rename_i he
      subst he
      obtain ⟨rfl, rfl⟩ := by simpa using h
      refine ⟨rfl, fun lb => ?_⟩
      have hno : ixOf r k' = none := by
        cases hq : ixOf r k' with
        | none => rfl
        | some q =>
          have := (ih hnd.2 (show ixOf r k' = some (q.1, q.2) from hq)).1
          exact absurd (List.mem_map.2 ⟨_, List.mem_of_getElem? this, rfl⟩) hnd.1
      rw [ixOf_none hno, lk_same]
    · simp only [Option.map_eq_some_iff] at h
      obtain ⟨q, hq, he⟩ := h
      obtain ⟨rfl, rfl⟩ := by simpa using he
      obtain ⟨h1, h2⟩ := ih hnd.2 (show ixOf r k = some (q.1, q.2) from hq)
      exact ⟨by simpa using h1, fun lb => h2 _⟩
theorem ixOf_get {ls : List (Nat × D)} : ∀ {i : Nat} {p : Nat × D}, (ls.map (·.1)).Nodup → ls[i]? = some p → ixOf ls p.1 = some (i, p.2) := by
  induction ls with
  | nil => intro i p _ h; simp at h
  | cons q r ih =>
    intro i p hnd h
    obtain ⟨k', y⟩ := q
    simp only [List.map_cons, List.nodup_cons] at hnd
    cases i with
    | zero =>
      obtain rfl : (k', y) = p := by simpa using h
      simp [ixOf]
    | succ i =>
      have h' : r[i]? = some p := by simpa using h
      have hne : k' ≠ p.1 := fun e => hnd.1 (by rw [e]; exact List.mem_map.2 ⟨p, List.mem_of_getElem? h', rfl⟩)
      simp [ixOf, hne, ih hnd.2 h']

theorem putAll_labs (st : St) (ls : List (Nat × D)) : putAll st (ls.map fun p => .lab p.1 (.owned p.2)) = ⟨st.sl, st.bx, (ls.reverse.map fun p => (p.1, Lab.owned p.2)) ++ st.lb⟩ := by
  induction ls generalizing st with
  | nil => rfl
  | cons p r ih => simp only [List.map_cons, putAll, ih]; simp [Wr.put]

end
end Go.Abs

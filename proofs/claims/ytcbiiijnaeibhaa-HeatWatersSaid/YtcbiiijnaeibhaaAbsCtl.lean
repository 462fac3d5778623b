/-
  Control: from an abstract run of a function's body to its contract.
-/
import Derived.Test.YtcbiiijnaeibhaaAbsRet
set_option linter.unusedVariables false
set_option linter.unusedSimpArgs false
namespace Go.Abs

inductive K where
  | code (c : Code)
  | blk (id : Nat)
  | lp (c : Code)
  /-- the rest of a region, in the order of its text -/
  | ops (ops : Array Oper) (i : Nat)

def restIx (ops : Array Oper) (i : Nat) : List Nat := (List.range (ops.size - i)).map (i + ·)

def LoopAt (P : Program) (c : Code) (Q : Exit → Act → World → Prop) (a : Act) (w : World) : Prop :=
  ∀ (b : Frame) (k : List Item) (cs : List Frame), ∃ e a' w', Q e a' w' ∧ Arrives P (lone (b.at a (.code c :: .inLoop c :: k)) cs w) b k cs e a' w'

section
variable {P : Program} {Q : Exit → Act → World → Prop} {a : Act} {w : World} {c : Code}
theorem loopAt_body (h : c.wp P (Exit.then (LoopAt P c Q) Q) a w) : LoopAt P c Q a w := by
  intro b k cs
  obtain ⟨e, a₁, w₁, hq, harr⟩ := h b (.inLoop c :: k) cs
  cases e with
  | normal =>
    obtain ⟨e₂, a₂, w₂, hq₂, harr₂⟩ := hq b k cs
    exact ⟨e₂, a₂, w₂, hq₂, .of_steps (Steps.trans harr (.one step_inLoop)) harr₂⟩
  | exit id => exact ⟨_, a₁, w₁, hq, .pass (x := .inLoop c) rfl (fun _ _ => .inl (by simp)) harr⟩
  | goto l => exact ⟨_, a₁, w₁, hq, .pass (x := .inLoop c) rfl (fun _ _ => .inl (by simp)) harr⟩
  | ret => exact ⟨_, a₁, w₁, hq, .pass (x := .inLoop c) rfl (fun _ _ => .inl (by simp)) harr⟩
  | panic ch => exact ⟨_, a₁, w₁, hq, .pass (x := .inLoop c) rfl (fun _ _ => .inl (by simp)) harr⟩
  | outgrown => exact ⟨_, a₁, w₁, hq, .pass (x := .inLoop c) rfl (fun _ _ => .inl (by simp)) harr⟩
theorem wp_loop_at (h : LoopAt P c Q a w) : (Code.loop c).wp P Q a w := by
  intro b k cs
  obtain ⟨e, a', w', hq, harr⟩ := h b k cs
  exact ⟨e, a', w', hq, .of_steps (.one step_loop) harr⟩
end

def SatK (P : Program) : List K → (Exit → Act → World → Prop) → Exit → Act → World → Prop
  | [], Q => Q
  | .code c :: k, Q => Exit.then (fun a w => c.wp P (SatK P k Q) a w) (SatK P k Q)
  | .blk id :: k, Q => Exit.inBlock id (SatK P k Q)
  | .lp c :: k, Q => Exit.then (LoopAt P c (SatK P k Q)) (SatK P k Q)
  | .ops ops i :: k, Q => Exit.then (fun a w => wpOps P ops (SatK P k Q) (restIx ops i) a w) (SatK P k Q)

def popK (id : Nat) : List K → Option (List K)
  | [] => none
  | .blk i :: k => if id = i then some k else popK id k
  | .code _ :: k => popK id k
  | .lp _ :: k => popK id k
  | .ops _ _ :: k => popK id k

theorem satK_exit {P : Program} {Q : Exit → Act → World → Prop} {a : Act} {w : World} {id : Nat} : ∀ {k k' : List K}, popK id k = some k' → SatK P k' Q .normal a w → SatK P k Q (.exit id) a w
  | [], _, h, _ => by cases h
  | .blk i :: k, k', h, hs => by
    simp only [popK] at h
    simp only [SatK, Exit.inBlock]
    split at h
    · rename_i e; obtain rfl := Option.some.inj h; rw [if_pos e]; exact hs
    · rename_i e; rw [if_neg e]; exact satK_exit h hs
  | .code c :: k, k', h, hs => by exact satK_exit (k := k) h hs
  | .lp c :: k, k', h, hs => by exact satK_exit (k := k) h hs
  | .ops o i :: k, k', h, hs => by exact satK_exit (k := k) h hs
theorem satK_ret {P : Program} {Q : Exit → Act → World → Prop} {a : Act} {w : World} : ∀ {k : List K}, Q .ret a w → SatK P k Q .ret a w
  | [], h => h
  | .blk i :: k, h => by exact satK_ret (k := k) h
  | .code c :: k, h => by exact satK_ret (k := k) h
  | .lp c :: k, h => by exact satK_ret (k := k) h
  | .ops o i :: k, h => by exact satK_ret (k := k) h

/-- What a call's body owes: from any concrete state that an abstract one describes, the rest of the body comes to a good end. -/
def AR (P : Program) (cx : Cx) (Q : Exit → Act → World → Prop) (k : List K) (st : St) : Prop :=
  ∀ m a w, Rel cx st m a w → SatK P k Q .normal a w

def hasN : List Nat → Nat → Bool
  | [], _ => false
  | j :: r, i => if j = i then true else hasN r i
/-- THE CONDITIONS of an abstract run. It stops before a loop's round, and before the regions that are named. -/
def vc (ty : Tys) (tb : Fns) (nt : Nat) (draw : List Oper → St → Prop) (fin : St → Prop) (stop : List K → St → Prop) (brk : List Nat) : Nat → List K → St → Prop
  | 0, k, st => stop k st
  | _ + 1, [], st => fin st
  | n + 1, .code .skip :: k, st => vc ty tb nt draw fin stop brk n k st
  | n + 1, .code (.label _) :: k, st => vc ty tb nt draw fin stop brk n k st
  | n + 1, .code (.seq a b) :: k, st => vc ty tb nt draw fin stop brk n (.code a :: .code b :: k) st
  | n + 1, .code (.region id ops false) :: k, st =>
    if hasN brk id = true then stop (.code (.region id ops false) :: k) st else (evSeq ty tb nt (ops.toList.map (·.dst)) ops.toList st).1 ∧ vc ty tb nt draw fin stop brk n k (evSeq ty tb nt (ops.toList.map (·.dst)) ops.toList st).2
  | n + 1, .code (.region _ ops true) :: k, st =>
    (evSeq ty tb nt (ops.toList.map (·.dst)) ops.toList st).1 ∧ draw ops.toList st ∧ vc ty tb nt draw fin stop brk n k (evSeq ty tb nt (ops.toList.map (·.dst)) ops.toList st).2
  | n + 1, .code (.cond c x y) :: k, st =>
    match valOf st c with
    | .u (.c (.d (.bool b))) => (b = true → vc ty tb nt draw fin stop brk n (.code x :: k) st) ∧ (b = false → vc ty tb nt draw fin stop brk n (.code y :: k) st)
    | _ => False
  | n + 1, .code (.block id c) :: k, st => vc ty tb nt draw fin stop brk n (.code c :: .blk id :: k) st
  | _ + 1, .code (.loop c) :: k, st => stop (.lp c :: k) st
  | n + 1, .code (.exit id) :: k, st =>
    match popK id k with
    | some k' => vc ty tb nt draw fin stop brk n k' st
    | none => False
  | _ + 1, .code .ret :: _, st => fin st
  | n + 1, .blk _ :: k, st => vc ty tb nt draw fin stop brk n k st
  | _ + 1, .lp c :: k, st => stop (.lp c :: k) st
  | n + 1, .ops ops i :: k, st =>
    (evSeq ty tb nt (ops.toList.map (·.dst)) (ops.toList.drop i) st).1 ∧ vc ty tb nt draw fin stop brk n k (evSeq ty tb nt (ops.toList.map (·.dst)) (ops.toList.drop i) st).2
  | _ + 1, .code c :: k, st => stop (.code c :: k) st

section
variable {P : Program} {ty : Tys} {tb : Fns} {cx : Cx} {Q : Exit → Act → World → Prop} {draw : List Oper → St → Prop} {fin : St → Prop}

/-- What a drawn region owes. -/
def DrawOk (P : Program) (ty : Tys) (tb : Fns) (cx : Cx) (draw : List Oper → St → Prop) : Prop :=
  ∀ (id : Nat) (ops : Array Oper) (st : St) (Q : Exit → Act → World → Prop) (m : Mp) (a : Act) (w : World), Rel cx st m a w → (evSeq ty tb cx.nt (ops.toList.map (·.dst)) ops.toList st).1 → draw ops.toList st →
    (∀ m' a' w', Rel cx (evSeq ty tb cx.nt (ops.toList.map (·.dst)) ops.toList st).2 m' a' w' → Q .normal a' w') → (Code.region id ops true).wp P Q a w

theorem ops_rest (hty : TyOk P ty) (htb : FnsOk P tb) {st : St} {m : Mp} {a : Act} {w : World} (R : Rel cx st m a w) {ops : Array Oper} {i : Nat} (h1 : (evSeq ty tb cx.nt (ops.toList.map (·.dst)) (ops.toList.drop i) st).1)
    (h2 : ∀ m' a' w', Rel cx (evSeq ty tb cx.nt (ops.toList.map (·.dst)) (ops.toList.drop i) st).2 m' a' w' → Q .normal a' w') : wpOps P ops Q (restIx ops i) a w := by
  by_cases hi : i ≤ ops.size
  · have e := evIdx_seq ty tb cx.nt ops.toList (ops.toList.drop i) (ops.toList.take i) st (List.take_append_drop _ _).symm
    have e2 : (ops.toList.take i).length = i := by simp [hi]
    simp only [e2, List.length_drop, Array.length_toList] at e
    exact ops_sound hty htb _ st m a w R (by rw [restIx, e]; exact h1) (by rw [restIx, e]; exact h2)
  · have e : ops.toList.drop i = [] := List.drop_eq_nil_of_le (by simp; omega)
    rw [e] at h1 h2
    have e2 : restIx ops i = [] := by simp [restIx]; omega
    rw [e2]
    exact h2 m a w R

theorem ar_loop {c : Code} {k : List K} {st : St} (h : AR P cx Q (.code c :: .lp c :: k) st) : AR P cx Q (.lp c :: k) st :=
  fun m a w R => loopAt_body (h m a w R)

theorem ar_of_vc (hty : TyOk P ty) (htb : FnsOk P tb) (hdraw : DrawOk P ty tb cx draw) (hfin : ∀ st m a w, Rel cx st m a w → fin st → Q .normal a w ∧ Q .ret a w) :
    ∀ (brk : List Nat) (n : Nat) (k : List K) (st : St), vc ty tb cx.nt draw fin (AR P cx Q) brk n k st → AR P cx Q k st := by
  intro brk n
  induction n with
  | zero => intro k st h; exact h
  | succ n ih =>
    intro k st h m a w R
    unfold vc at h
    split at h
    · rename_i he; cases he
    · exact (hfin _ m a w R h).1
    · exact wp_skip (ih _ _ (by rename_i he; obtain rfl := Nat.succ.inj he; exact h) m a w R)
    · exact wp_label (ih _ _ (by rename_i he; obtain rfl := Nat.succ.inj he; exact h) m a w R)
    · rename_i he; obtain rfl := Nat.succ.inj he
      exact wp_seq (ih _ _ h m a w R)
    · rename_i he; obtain rfl := Nat.succ.inj he
      split at h
      · exact h m a w R
      · exact region_sound hty htb R h.1 (fun m' a' w' R' => ih _ _ h.2 m' a' w' R')
    · rename_i he; obtain rfl := Nat.succ.inj he
      exact hdraw _ _ _ _ m a w R h.1 h.2.1 (fun m' a' w' R' => ih _ _ h.2.2 m' a' w' R')
    · rename_i he; obtain rfl := Nat.succ.inj he
      split at h
      · rename_i b hv
        have hx := R.val ‹Operand›
        rw [hv] at hx
        refine wp_cond_split (rd_bool hx) (fun hb => ih _ _ (h.1 hb) m a w R) (fun hb => ih _ _ (h.2 hb) m a w R)
      · exact h.elim
    · rename_i he; obtain rfl := Nat.succ.inj he
      exact wp_block (ih _ _ h m a w R)
    · exact wp_loop_at (h m a w R)
    · rename_i he; obtain rfl := Nat.succ.inj he
      split at h
      · rename_i k' hp
        exact wp_exit (satK_exit hp (ih _ _ h m a w R))
      · exact h.elim
    · exact wp_ret (satK_ret (hfin _ m a w R h).2)
    · rename_i he; obtain rfl := Nat.succ.inj he
      exact ih _ _ h m a w R
    · exact h m a w R
    · rename_i he; obtain rfl := Nat.succ.inj he
      exact ops_rest hty htb R h.1 (fun m' a' w' R' => ih _ _ h.2 m' a' w' R')
    · exact h m a w R

/-- The state at a call's begin. -/
def argAV : Arg → AV
  | .c x => .c (.d x)
  | .agg l => .agg (l.map .d)
  | .ptr l => .c (.sptr l 0)
  | .clo f caps => .c (.clo f (caps.map fun l => .sptr l 0))
def argSl : Nat → List Arg → List (Nat × AV)
  | _, [] => []
  | i, x :: r => (i, argAV x) :: argSl (i + 1) r
def St.begin (args : List Arg) : St := ⟨argSl 0 args, [], []⟩

theorem lk_argSl : ∀ {args : List Arg} {i t : Nat} {v : AV}, lk (argSl i args) t = some v → ∃ j x, args[j]? = some x ∧ t = i + j ∧ v = argAV x
  | [], _, _, _, h => by cases h
  | x :: r, i, t, v, h => by
    simp only [argSl, lk] at h
    split at h
    · rename_i e
      obtain rfl := Option.some.inj h
      exact ⟨0, x, rfl, by omega, rfl⟩
    · obtain ⟨j, y, h1, h2, h3⟩ := lk_argSl h
      exact ⟨j + 1, y, by simpa using h1, by omega, h3⟩

theorem rargs_get {w : World} {S : Nat → Prop} : ∀ {args : List Arg} {vs : List Value}, RArgs w S args vs → vs.length = args.length ∧ ∀ (j : Nat) (x : Arg), args[j]? = some x → ∃ v : Value, vs[j]? = some v ∧ RArg w S x v
  | [], [], _ => ⟨rfl, fun j x h => by simp at h⟩
  | [], _ :: _, h => h.elim
  | _ :: _, [], h => h.elim
  | y :: r, v :: vs, h => by
    obtain ⟨h1, h2⟩ := rargs_get h.2
    refine ⟨by simp [h1], fun j x hx => ?_⟩
    cases j with
    | zero => obtain rfl : y = x := by simpa using hx
              exact ⟨v, rfl, h.1⟩
    | succ j => simpa using h2 j x (by simpa using hx)

/-- What is known of the rest of a body: it is good where an abstract run is, where a loop's round is, and where a weaker state is good. -/
structure Stop (P : Program) (ty : Tys) (tb : Fns) (n : Nat) (draw : List Oper → St → Prop) (fin : St → Prop) (stop : List K → St → Prop) (sus : List AV := []) : Prop where
  ex : ∃ (cx : Cx) (Q : Exit → Act → World → Prop), cx.nt = n ∧ cx.sus.map (·.1) = sus ∧ TyOk P ty ∧ FnsOk P tb ∧ DrawOk P ty tb cx draw ∧
    (∀ st m a w, Rel cx st m a w → fin st → Q .normal a w ∧ Q .ret a w) ∧ stop = AR P cx Q

section
variable {n : Nat} {stop : List K → St → Prop} {sus : List AV}
theorem Stop.lp (S : Stop P ty tb n draw fin stop sus) {c : Code} {k : List K} {st : St} (h : stop (.code c :: .lp c :: k) st) : stop (.lp c :: k) st := by
  obtain ⟨cx, Q, -, -, -, -, -, -, rfl⟩ := S.ex
  exact ar_loop h
theorem Stop.goB (S : Stop P ty tb n draw fin stop sus) (brk : List Nat) (fuel : Nat) {k : List K} {st : St} (h : vc ty tb n draw fin stop brk fuel k st) : stop k st := by
  obtain ⟨cx, Q, rfl, -, hty, htb, hd, hf, rfl⟩ := S.ex
  exact ar_of_vc hty htb hd hf brk fuel k st h
theorem Stop.go (S : Stop P ty tb n draw fin stop sus) (fuel : Nat) {k : List K} {st : St} (h : vc ty tb n draw fin stop [] fuel k st) : stop k st := S.goB [] fuel h
theorem Stop.weak (S : Stop P ty tb n draw fin stop sus) {k : List K} {st : St} (st' : St) (hle : ∀ cx m a w, cx.nt = n → cx.sus.map (·.1) = sus → Rel cx st m a w → ∃ m', Rel cx st' m' a w) (h : stop k st') : stop k st := by
  obtain ⟨cx, Q, hn, hs, -, -, -, -, rfl⟩ := S.ex
  intro m a w R
  obtain ⟨m', R'⟩ := hle cx m a w hn hs R
  exact h m' a w R'
end

/-- A CONTRACT out of an abstract run of the body. -/
theorem valid_of_ar {f : Nat} {fn : Func} {c : Code} {sp : FSpec} {n : Nat} (hty : TyOk P ty) (htb : FnsOk P tb) (hf : P.funcs[f]? = some fn) (hb : fn.body = some c) (hn : fn.ntmps = n)
    (hdraw : ∀ cx, cx.nt = n → DrawOk P ty tb cx draw) (fin' : List Arg → St → Prop)
    (hfin' : ∀ args cx st m a w, sp.pre args → Rel cx st m a w → fin' args st → ∃ v, (results fn a.tmps).run P w = .ok v w ∧ Left cx.w0 w cx.S0 sp args v)
    (nrm : List Arg → List Arg) (hnrm : ∀ args w S vs, sp.pre args → RArgs w S args vs → RArgs w S (nrm args) vs)
    (h : ∀ args, sp.pre args → ∀ stop, Stop P ty tb n draw (fin' args) stop → stop [.code c] (St.begin (nrm args))) (hlen : ∀ args, sp.pre args → (nrm args).length ≤ n) : Valid P f sp := by
  intro S0 w args0 vs hS0 hargs0 hpre
  have hle := hlen args0 hpre
  have hargs := hnrm args0 w S0 vs.toList hpre hargs0
  generalize hq : nrm args0 = args at hargs hle
  obtain ⟨g1, g2⟩ := rargs_get hargs
  let cx : Cx := ⟨S0, w, n, []⟩
  refine calls_of_wp hf hb ?_
  have hR : Rel cx (St.begin args) ⟨fun _ => none, fun _ => none⟩ { tmps := vs ++ Array.replicate (fn.ntmps - vs.size) undef, defers := [] } w := by
    refine { defers := rfl, nt := ?_, env := .refl _, size := Nat.le_refl _, old := fun _ _ => rfl, s0 := hS0, slots := fun t v ht => ?_, sus := fun p hp => (by cases hp), boxes := fun b cs h => (by cases h), nobox := fun _ _ => rfl,
             owned := fun k x h => (by cases h), noown := fun _ _ => rfl, ownb := fun _ _ h => (by cases h), boxb := fun _ _ h => (by cases h), injo := fun _ _ _ h => (by cases h), injb := fun _ _ _ h => (by cases h), dis := fun _ _ _ h => (by cases h) }
    · have : vs.size = args.length := by simpa using g1
      simp [hn, this, cx]; omega
    · obtain ⟨j, x, hj, rfl, rfl⟩ := lk_argSl ht
      obtain ⟨v, hv, hr⟩ := g2 j x hj
      have hlt := (List.getElem?_eq_some_iff.1 hj).1
      refine ⟨by show 0 + j < n; omega, ?_⟩
      have hv2 : (vs ++ Array.replicate (fn.ntmps - vs.size) undef).getD (0 + j) undef = v := by
        have hjs : j < vs.size := by have := (List.getElem?_eq_some_iff.1 hv).1; simpa using this
        rw [Nat.zero_add, Array.getD_eq_getD_getElem?, Array.getElem?_append_left hjs]
        simpa using congrArg (fun o => o.getD undef) hv
      show RA cx _ w _ _ (Array.getD _ _ _)
      rw [hv2]
      have hext : Ext w w S0 (Sof cx ⟨fun _ => none, fun _ => none⟩) := ⟨Nat.le_refl _, fun _ _ _ => rfl, fun B _ h => ⟨.inl h, fun _ h => (by cases h), fun _ h => (by cases h)⟩⟩
      cases x with
      | c x => exact RD.ext hext hr
      | agg l =>
        obtain ⟨us, rfl, hsz, hc⟩ := hr
        refine ⟨us, rfl, by simpa using hsz, fun i hi => ?_⟩
        simp only [List.length_map] at hi
        obtain ⟨u, hu, hr⟩ := hc i hi
        refine ⟨u, hu, ?_⟩
        have e : (l.map AC.d).getD i .undef = .d (l.getD i .undef) := by simp [List.getD_eq_getElem?_getD, hi]
        rw [e]; exact RD.ext hext hr
      | ptr l => exact Ptr.ext hext hr
      | clo f caps =>
        obtain ⟨us, rfl, hsz, hc⟩ := hr
        refine ⟨us, rfl, by simpa using hsz, fun i hi => ?_⟩
        simp only [List.length_map] at hi
        obtain ⟨u, hu, hr⟩ := hc i hi
        refine ⟨u, hu, ?_⟩
        have e : (caps.map fun l => Cap.sptr l 0).getD i (.ref 0 0) = .sptr (caps.getD i []) 0 := by simp [List.getD_eq_getElem?_getD, hi]
        rw [e]; exact Ptr.ext hext hr
  have hfin : ∀ st m a w', Rel cx st m a w' → fin' args0 st →
      bodyPost P fn (fun e w' => ∃ v, e = .returned v ∧ Left w w' S0 sp args0 v) .normal a w' ∧ bodyPost P fn (fun e w' => ∃ v, e = .returned v ∧ Left w w' S0 sp args0 v) .ret a w' := by
    intro st m a w' R hf
    obtain ⟨v, h1, h2⟩ := hfin' args0 cx st m a w' hpre R hf
    exact ⟨⟨R.defers, v, h1, v, rfl, h2⟩, ⟨R.defers, v, h1, v, rfl, h2⟩⟩
  rw [← hq] at hR
  exact h args0 hpre (AR P cx (bodyPost P fn fun e w' => ∃ v, e = .returned v ∧ Left w w' S0 sp args0 v)) ⟨cx, _, rfl, rfl, hty, htb, hdraw cx rfl, hfin, rfl⟩ _ _ _ hR

end
end Go.Abs

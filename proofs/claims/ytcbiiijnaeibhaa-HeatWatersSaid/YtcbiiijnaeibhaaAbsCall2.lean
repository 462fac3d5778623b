/-
  Calls are sound.
-/
import Derived.Test.YtcbiiijnaeibhaaAbsCall
set_option linter.unusedVariables false
set_option linter.unusedSimpArgs false
namespace Go.Abs
section
variable {P : Program} {ty : Tys} {tb : Fns} {cx : Cx} {st : St} {m m1 m' : Mp} {a : Act} {w w' : World} {o : Oper} {out : Out} {ws : List Wr}

theorem run_callFunc {f : Nat} {fn : Func} (h1 : P.funcs[f]? = some fn) (h2 : (fn.name == "runtime.NumGoroutine") = false) (h3 : fn.body.isNone = false) (args : Array Value) :
    (callFunc f args).run P w = .ok (.enter f args) w := by
  simp only [callFunc, Sem.run_bind, run_program, Result.andThen_ok, h1, h2, h3]
  rfl

theorem cells_rows {S : Nat → Prop} {own : Nat → Option Nat} {lin : Bool} : ∀ {l : List RC} {cs : List AC} {ls : List (Nat × D)} {vs : List Value} {j : Nat}, CsOf lin l cs ls → RRcs w' S own j l vs →
    (lin = true → ls.length = nOwn l) ∧ ∀ i p, ls[i]? = some p → p.2.isSl = true ∧ ∀ B, own (j + i) = some B → Row w' S B p.2 := by
  intro l
  induction l with
  | nil =>
    intro cs ls vs j h1 h2
    cases cs <;> cases ls <;> first | exact ⟨fun _ => rfl, fun i p h => by simp at h⟩ | exact h1.elim
  | cons x r ih =>
    intro cs ls vs j h1 h2
    cases vs with
    | nil => cases x <;> exact h2.elim
    | cons v vs =>
      cases cs with
      | nil => cases x <;> cases ls <;> exact h1.elim
      | cons c cs =>
        cases x with
        | d x =>
          have hc : CsOf lin r cs ls := by
            cases c <;> first | exact h1.2 | (cases ls <;> exact h1.elim)
          obtain ⟨g1, g2⟩ := ih hc h2.2
          exact ⟨fun h => g1 h, g2⟩
        | own x =>
          obtain ⟨⟨hx, hh, hrow⟩, h2⟩ := h2
          cases c with
          | d y =>
            have h1' : (lin = false ∧ x = y) ∧ CsOf lin r cs ls := by cases ls <;> exact h1
            obtain ⟨⟨hlin, rfl⟩, h1'⟩ := h1'
            refine ⟨fun h => absurd (hlin.symm.trans h) (by simp), fun i p hp => ?_⟩
            subst hlin
            rw [h1'.nil] at hp; simp at hp
          | own k =>
            cases ls with
            | nil => exact h1.elim
            | cons p ls =>
              obtain ⟨⟨hlin, rfl, rfl⟩, h1⟩ := h1
              obtain ⟨g1, g2⟩ := ih h1 h2
              refine ⟨fun h => by simp [nOwn, g1 h], fun i q hq => ?_⟩
              cases i with
              | zero =>
                obtain rfl : p = q := by simpa using hq
                exact ⟨hx, fun B hB => hrow B (by simpa using hB)⟩
              | succ i =>
                have := g2 i q (by simpa using hq)
                rwa [show j + (i + 1) = j + 1 + i by omega]
          | _ => cases ls <;> exact h1.elim

theorem AusOf.nil : ∀ {rs : List RV} {xs : List AU} {l2 : List (Nat × D)}, AusOf false rs xs l2 → l2 = [] := by
  intro rs
  induction rs with
  | nil => intro xs l2 h; cases xs <;> first | exact h | exact h.elim
  | cons r rs ih2 =>
    intro xs l2 h
    cases xs with
    | nil => exact h.elim
    | cons x xs =>
      obtain ⟨a1, a2, rfl, b1, b2⟩ := h
      have e2 := ih2 b2
      have e1 : a1 = [] := by
        cases r <;> cases x <;> first | exact CsOf.nil b1 | exact b1.elim
      rw [e1, e2]; rfl

theorem aus_rows {S : Nat → Prop} {own : Nat → Option Nat} {lin : Bool} : ∀ {rs : List RV} {xs : List AU} {ls : List (Nat × D)} {vs : List Value} {j : Nat}, AusOf lin rs xs ls → RRvs w' S own j rs vs →
    ∀ i p, ls[i]? = some p → p.2.isSl = true ∧ ∀ B, own (j + i) = some B → Row w' S B p.2 := by
  intro rs
  induction rs with
  | nil =>
    intro xs ls vs j h1 h2 i p hp
    cases xs with
    | nil => obtain rfl : ls = [] := h1; simp at hp
    | cons _ _ => exact h1.elim
  | cons r rs ih =>
    intro xs ls vs j h1 h2 i p hp
    cases xs with
    | nil => exact h1.elim
    | cons x xs =>
      cases vs with
      | nil => exact h2.elim
      | cons v vs =>
        obtain ⟨l1, l2, rfl, hx, hxs⟩ := h1
        obtain ⟨hv, hvs⟩ := h2
        have hone : (lin = true → l1.length = nOwn r.cells) ∧ ∀ i p, l1[i]? = some p → p.2.isSl = true ∧ ∀ B, own (j + i) = some B → Row w' S B p.2 := by
          cases r with
          | c r => cases x with
            | c x => exact cells_rows hx hv
            | agg _ => exact hx.elim
          | agg l => cases x with
            | c x => exact hx.elim
            | agg cs =>
              obtain ⟨us, rfl, hus⟩ := hv
              exact cells_rows hx hus
        by_cases hi : i < l1.length
        · rw [List.getElem?_append_left hi] at hp
          exact hone.2 i p hp
        · rw [List.getElem?_append_right (by omega)] at hp
          cases lin with
          | false => rw [hxs.nil] at hp; simp at hp
          | true =>
            have := ih hxs hvs _ p hp
            rwa [← hone.1 rfl, show j + l1.length + (i - l1.length) = j + i by omega] at this

/-- BEHIND A CALL: the caller's state with what the callee left. -/
theorem Rel.left (R : Rel cx (putAll st ws) m1 a w) (hnone : ∀ k, lk st.lb k = none → lk (putAll st ws).lb k = none) {sp : FSpec} {args : List Arg} {v : Value} {S0 : Nat → Prop} (hL : Left w w' S0 sp args v)
    (hS0 : sp.alias = true → ∀ B, S0 B → Sof cx m1 B) {lin : Bool} {xs : List AU} {ls : List (Nat × D)} (hx : AusOf lin (sp.res args) xs ls) (hls : ∀ p ∈ ls, lk st.lb p.1 = none) (hnd : (ls.map (·.1)).Nodup) :
    ∃ m', Rel cx (putAll (putAll st ws) (ls.map fun p => .lab p.1 (.owned p.2))) m' a w' ∧ RA cx m' w' (lk (putAll (putAll st ws) (ls.map fun p => .lab p.1 (.owned p.2))).lb) (resAV xs) v := by
  obtain ⟨own, hown, hinj, hres⟩ := hL.res
  let N : Nat → Option D := fun k => (ixOf ls k).map (·.2)
  let ow : Nat → Option Nat := fun k => match ixOf ls k with | some (i, _) => own i | none => none
  have hSof : ∀ B, (((sp.alias = true ∧ S0 B) ∨ w.heap.size ≤ B) ∧ ∀ j, own j ≠ some B) → Sof cx m1 B := by
    rintro B ⟨⟨h1, h2⟩ | h, _⟩
    · exact hS0 h1 B h2
    · exact ⟨.inr (Nat.le_trans R.size h), fun k hk => by have := R.ownb k B hk; omega, fun b hb => by have := R.boxb b B hb; omega⟩
  have how : ∀ k B, ow k = some B → ∃ i x, ixOf ls k = some (i, x) ∧ own i = some B := by
    intro k B h
    simp only [ow] at h
    split at h
    · rename_i i x hi; exact ⟨i, x, hi, h⟩
    · cases h
  -- the rows of the new labels
  obtain ⟨us, hus, hrs⟩ : ∃ us, RRvs w' (fun B => ((sp.alias = true ∧ S0 B) ∨ w.heap.size ≤ B) ∧ ∀ j, own j ≠ some B) own 0 (sp.res args) us ∧
      (∀ {m' : Mp} {lb : Nat → Option Lab}, us.length = xs.length → (∀ i, i < xs.length → ∃ u, us[i]? = some u ∧ RU cx m' w' lb (xs.getD i (.c .undef)) u) → RA cx m' w' lb (resAV xs) v) := by
    unfold RRes at hres
    split at hres
    · rename_i r hr
      rw [hr] at hx
      refine ⟨[v], by rw [hr]; exact ⟨hres, trivial⟩, fun h1 h2 => ?_⟩
      match xs, h1, hx with
      | [x], _, _ =>
        obtain ⟨u, hu, hr⟩ := h2 0 (by simp)
        obtain rfl : v = u := by simpa using hu
        exact hr
    · rename_i hne
      obtain ⟨vs, rfl, hvs⟩ := hres
      refine ⟨vs.toList, hvs, fun h1 h2 => ?_⟩
      have hx1 : ∀ x, xs ≠ [x] := by
        rintro x rfl
        generalize sp.res args = rs at *
        match rs, hx with
        | [], h => exact h
        | [r], _ => exact hne r rfl
        | r :: r2 :: rs, h => obtain ⟨l1, l2, _, _, h⟩ := h; exact h
      have : resAV xs = .tup xs := by
        unfold resAV
        split
        · exact absurd rfl (hx1 _)
        · rfl
      rw [this]
      exact ⟨vs, rfl, by simpa using h1, fun i hi => by simpa using h2 i hi⟩
  have hrows := aus_rows hx hus
  rw [putAll_labs]
  have R2 := R.newLabs (w' := w') N ow (lb := (ls.reverse.map fun p => (p.1, Lab.owned p.2)) ++ (putAll st ws).lb) hL.size hL.env hL.old (fun k x hk => by
      simp only [N, Option.map_eq_some_iff] at hk
      obtain ⟨⟨i, y⟩, hi, rfl⟩ := hk
      obtain ⟨h1, h2⟩ := ixOf_some hnd hi
      obtain ⟨r1, r2⟩ := hrows i _ h1
      refine ⟨hnone k (hls _ (List.mem_of_getElem? h1)), h2 _, r1, fun B hB => ?_⟩
      obtain ⟨i', x', hi', ho⟩ := how k B hB
      rw [hi] at hi'
      obtain ⟨rfl, rfl⟩ := by simpa using hi'
      refine ⟨(hown i B ho).1, (hown i B ho).2, Row.ext ⟨Nat.le_refl _, fun _ _ _ => rfl, fun B' _ h => ⟨hSof B' h, fun k' hk' => ?_⟩⟩ rfl (r2 B (by simpa using ho))⟩
      obtain ⟨i2, x2, _, ho2⟩ := how k' B' hk'
      exact h.2 i2 ho2)
    (fun k hk => by
      have hi : ixOf ls k = none := by
        cases h : ixOf ls k with
        | none => rfl
        | some q => simp [N, h] at hk
      exact ⟨ixOf_none hi _, by simp only [ow, hi]⟩)
    (fun k k' B h1 h2 => by
      obtain ⟨i, x, hi, ho⟩ := how k B h1
      obtain ⟨i', x', hi', ho'⟩ := how k' B h2
      obtain rfl := hinj _ _ _ ho ho'
      have e1 := (ixOf_some hnd hi).1
      have e2 := (ixOf_some hnd hi').1
      rw [e1] at e2
      simpa using (by simpa using e2 : k = k' ∧ x = x').1)
  refine ⟨_, R2, ?_⟩
  have hS : Ext w' w' (fun B => ((sp.alias = true ∧ S0 B) ∨ w.heap.size ≤ B) ∧ ∀ j, own j ≠ some B) (Sof cx ⟨fun k => (match N k with | some _ => ow k | none => m1.own k), m1.box⟩) := by
    refine ⟨Nat.le_refl _, fun _ _ _ => rfl, fun B _ h => ⟨(hSof B h).1, fun k hk => ?_, (hSof B h).2.2⟩⟩
    simp only at hk
    split at hk
    · obtain ⟨i2, x2, _, ho2⟩ := how k B hk
      exact h.2 i2 ho2
    · exact (hSof B h).2.1 k hk
  obtain ⟨g1, g2⟩ := aus_rel (cx := cx) (m' := ⟨fun k => (match N k with | some _ => ow k | none => m1.own k), m1.box⟩) (lb := lk ((ls.reverse.map fun p => (p.1, Lab.owned p.2)) ++ (putAll st ws).lb)) hS (fun hlin j B hB => by
      subst hlin
      have hnil := hx.nil
      have hb := hown j B hB
      refine ⟨⟨.inr (Nat.le_trans R.size hb.1), fun k hk => ?_, fun b hb' => by have := R.boxb b B hb'; omega⟩, hb.2⟩
      simp only at hk
      split at hk
      · obtain ⟨i2, x2, hi2, _⟩ := how k B hk
        rw [hnil] at hi2; cases hi2
      · have := R.ownb k B hk; omega) hx hus (fun i p hp => by
      have hix := ixOf_get hnd hp
      have hN : N p.1 = some p.2 := by simp [N, hix]
      refine ⟨?_, (ixOf_some hnd hix).2 _⟩
      simp only [hN, ow, hix, Nat.zero_add])
  exact hrs g1 g2

theorem rargs_app {S : Nat → Prop} : ∀ {l1 l2 : List Arg} {v1 v2 : List Value}, RArgs w S l1 v1 → RArgs w S l2 v2 → RArgs w S (l1 ++ l2) (v1 ++ v2)
  | [], _, [], _, _, h => h
  | [], _, _ :: _, _, h, _ => h.elim
  | _ :: _, _, [], _, h, _ => h.elim
  | _ :: _, _, _ :: _, _, h1, h2 => ⟨h1.1, rargs_app h1.2 h2⟩

theorem rargs_ptr {S : Nat → Prop} : ∀ {ds : List (List D)} {vs : List Value}, vs.length = ds.length → (∀ i, i < ds.length → ∃ u, vs[i]? = some u ∧ Ptr w S (ds.getD i []) 0 u) → RArgs w S (ds.map .ptr) vs
  | [], [], _, _ => trivial
  | [], _ :: _, h, _ => by simp at h
  | _ :: _, [], h, _ => by simp at h
  | d :: ds, v :: vs, h, hv => by
    refine ⟨?_, rargs_ptr (by simpa using h) (fun i hi => by simpa using hv (i + 1) (by simpa using hi))⟩
    obtain ⟨u, hu, hr⟩ := hv 0 (by simp)
    obtain rfl : v = u := by simpa using hu
    exact hr

theorem Rel.args (R : Rel cx st m a w) : ∀ {l : List Operand} {xs : List Arg}, ArgsOf st (valsOf st l) xs → RArgs w (Known cx w) xs (l.map a.eval)
  | [], [], _ => trivial
  | [], _ :: _, h => h.elim
  | _ :: _, [], h => h.elim
  | x :: l, y :: xs, h => ⟨R.arg h.1 (R.val x), Rel.args R h.2⟩

/-- arguments that are shared, where a result may alias them -/
theorem Rel.arg_shared (R : Rel cx st m a w) {v : AV} {x : Arg} {u : Value} (h : ArgOf st v x) (hs : ∀ k ∈ labsOf (allCells [v]), ∃ y, lk st.lb k = some (.shared y)) (hc : ∀ g ds, x = .clo g ds → ds = []) (hv : RA cx m w (lk st.lb) v u) : RArg w (Sof cx m) x u := by
  rcases h with ⟨g, caps, ds, rfl, rfl, h⟩ | ⟨y, d, rfl, rfl, h⟩ | ⟨l, ds, rfl, rfl, h⟩
  · obtain rfl := hc g ds rfl
    obtain ⟨vs, rfl, hsz, _⟩ := hv
    have : caps = [] := by
      cases caps with
      | nil => rfl
      | cons _ _ => exact h.elim
    subst this
    exact ⟨vs, rfl, hsz, fun i hi => by simp at hi⟩
  · exact R.dof_shared h (by simpa [allCells, AU.cells] using hs) hv
  · obtain ⟨vs, rfl, hsz, hc⟩ := hv
    refine ⟨vs, rfl, by rw [hsz, h.1], fun i hi => ?_⟩
    rw [h.1] at hi
    obtain ⟨u, hu, hr⟩ := hc i hi
    exact ⟨u, hu, R.dof_shared (h.2 i hi) (fun k hk => hs k (by simpa [allCells, AU.cells] using labsOf_get hi k hk)) hr⟩

theorem ArgsOf.up {st' : St} (h : ∀ {x : AC} {d : D}, DOf (lk st.lb) x d → DOf (lk st'.lb) x d) (hb : st'.bx = st.bx) : ∀ {l : List AV} {xs : List Arg}, ArgsOf st l xs → ArgsOf st' l xs := by
  have hds : ∀ {l ds}, DsOf (lk st.lb) l ds → DsOf (lk st'.lb) l ds := fun hd => ⟨hd.1, fun j hj => h (hd.2 j hj)⟩
  have hcap : ∀ {c d}, CapOf st c d → CapOf st' c d := by
    intro c d hc
    unfold CapOf at *
    split at hc
    · obtain ⟨cs, h1, h2⟩ := hc
      exact ⟨cs, by rw [hb]; exact h1, hds h2⟩
    · exact hc
    · exact hc.elim
  have hcaps : ∀ {c d}, CapsOf st c d → CapsOf st' c d := by
    intro c
    induction c with
    | nil => intro d hd; cases d <;> exact hd
    | cons x r ih => intro d hd; cases d with
      | nil => exact hd
      | cons y d => exact ⟨hcap hd.1, ih hd.2⟩
  intro l
  induction l with
  | nil => intro xs hx; cases xs <;> exact hx
  | cons v r ih =>
    intro xs hx
    cases xs with
    | nil => exact hx
    | cons x xs =>
      refine ⟨?_, ih hx.2⟩
      rcases hx.1 with ⟨g, caps, ds, e1, e2, h⟩ | ⟨y, d, e1, e2, h3⟩ | ⟨l, ds, e1, e2, h⟩
      · exact .inl ⟨g, caps, ds, e1, e2, hcaps h⟩
      · exact .inr (.inl ⟨y, d, e1, e2, h h3⟩)
      · exact .inr (.inr ⟨l, ds, e1, e2, hds h⟩)

theorem Rel.args_shared (R : Rel cx st m a w) : ∀ {l : List Operand} {xs : List Arg}, ArgsOf st (valsOf st l) xs → (∀ k ∈ labsOf (allCells (valsOf st l)), ∃ y, lk st.lb k = some (.shared y)) → noCaps xs = true → RArgs w (Sof cx m) xs (l.map a.eval)
  | [], [], _, _, _ => trivial
  | [], _ :: _, h, _, _ => h.elim
  | _ :: _, [], h, _, _ => h.elim
  | x :: l, y :: xs, h, hs, hn => by
    have hs1 : ∀ k ∈ labsOf (allCells [valOf st x]), ∃ y, lk st.lb k = some (.shared y) := fun k hk => hs k (by
      cases hv : valOf st x with
      | u u => simp only [valsOf, hv, allCells, List.append_nil, labsOf, List.filterMap_append, List.mem_append] at hk ⊢; exact .inl hk
      | tup _ => simp [hv, allCells, labsOf] at hk
      | cnd _ _ => simp [hv, allCells, labsOf] at hk)
    have hs2 : ∀ k ∈ labsOf (allCells (valsOf st l)), ∃ y, lk st.lb k = some (.shared y) := fun k hk => hs k (by
      cases hv : valOf st x with
      | u u => simp only [valsOf, hv, allCells, labsOf, List.filterMap_append, List.mem_append] at hk ⊢; exact .inr hk
      | tup _ => simpa only [valsOf, hv, allCells] using hk
      | cnd _ _ => simpa only [valsOf, hv, allCells] using hk)
    have hn2 : noCaps xs = true ∧ ∀ g ds, y = .clo g ds → ds = [] := by
      cases y with
      | clo g ds =>
        simp only [noCaps, Bool.and_eq_true, List.isEmpty_iff] at hn
        refine ⟨hn.2, fun g' ds' e => ?_⟩
        obtain ⟨rfl, rfl⟩ := by simpa using e
        exact hn.1
      | ptr l => simp [noCaps] at hn
      | c x => exact ⟨hn, fun _ _ e => by cases e⟩
      | agg l => exact ⟨hn, fun _ _ e => by cases e⟩
    exact ⟨R.arg_shared h.1 hs1 hn2.2 (R.val x), Rel.args_shared R h.2 hs2 hn2.1⟩

theorem good_call (htb : FnsOk P tb) (R : Rel cx st m a w) {lin : Bool} {nm g : Nat} {x : Operand} {args : Array Operand} {ts : Array Nat} {caps : List Cap}
    (ho : o.op = .call { callee := .value x, args := args, argTypes := ts }) (hx : valOf st x = .u (.c (.clo g caps))) (hobl : ((evCallF tb lin nm g caps (valsOf st args.toList)).run st).obl) :
    Good P cx st a w o ((evCallF tb lin nm g caps (valsOf st args.toList)).run st) := by
  have hxv := R.val x
  rw [hx] at hxv
  obtain ⟨vs, hv, hvs, hvc⟩ := hxv
  revert hobl
  unfold evCallF
  split
  · exact bad_elim
  · rename_i sp hsp
    obtain ⟨⟨fn, f1, f2, f3⟩, hval⟩ := htb g sp hsp
    have hexec : (execOp a.eval o).run P w = .ok (.enter g ((args.map a.eval) ++ vs)) w := by
      simp only [execOp, ho, resolve, hv, Deferred.ofValue, Sem.run_bind, Sem.run_pure, Result.andThen_ok, invoke, Array.empty_append]
      exact run_callFunc f1 f2 f3 _
    -- what is common to both forms
    have key : ∀ (as : List Arg) (ws : List Wr) (m1 : Mp) (S0 : Nat → Prop), Rel cx (putAll st ws) m1 a w → (∀ k, lk st.lb k = none → lk (putAll st ws).lb k = none) →
        (∀ B, S0 B → B < w.heap.size) → (sp.alias = true → noCaps as = true → ∀ B, S0 B → Sof cx m1 B) → (noCaps as = true ∨ sp.alias = false → RArgs w S0 as ((args.map a.eval) ++ vs).toList) →
        ((callOut sp lin nm caps as ws).run st).obl → Good P cx st a w o ((callOut sp lin nm caps as ws).run st) := by
      intro as ws m1 S0 R1 hnone h1 h2 h3
      unfold callOut
      rcases run_resAUs st lin nm (sp.res as) 0 (fun xs ls => if lin = true ∨ ws.length = 0 then
          .ret ⟨sp.pre as ∧ (ls.map (·.1)).Nodup ∧ (sp.alias = true → noCaps as = true), resAV xs, ws ++ ls.map fun p => .lab p.1 (.owned p.2)⟩
        else bad) with ⟨xs, ls, k1, k2, k3⟩ | k1
      · rw [k1]
        split
        · intro hobl
          simp only [Rd.run] at hobl ⊢
          obtain ⟨hp, hnd, hal⟩ := hobl
          intro next Q hnext
          unfold Oper.wp
          rw [hexec, Oper.upon_enter]
          refine (hval S0 w as _ h1 (h3 (by
            cases ha : sp.alias with
            | true => exact .inl (hal ha)
            | false => exact .inr rfl)) hp).mono ?_
          rintro e w2 ⟨v, rfl, hL⟩
          obtain ⟨m2, R2, hr⟩ := R1.left hnone hL (fun ha => h2 ha (hal ha)) k3 k2 hnd
          rw [putAll_append] at hnext
          exact hnext v m2 w2 R2 hr
        · exact bad_elim
      · rw [k1]; exact fun h => h.elim
    rcases run_toArgs st (valsOf st args.toList) (fun as => capsDs caps fun ds =>
        if sp.alias then shareLabs (allCells (valsOf st args.toList)) fun ws => callOut sp lin nm caps (as ++ ds.map .ptr) ws
        else callOut sp lin nm caps (as ++ ds.map .ptr) []) with ⟨as, has, k1⟩ | k1
    · rw [k1]
      rcases run_capsDs st caps (fun ds => if sp.alias then shareLabs (allCells (valsOf st args.toList)) fun ws => callOut sp lin nm caps (as ++ ds.map .ptr) ws
        else callOut sp lin nm caps (as ++ ds.map .ptr) []) with ⟨ds, hds, k2⟩ | k2
      · rw [k2]
        obtain ⟨c1, c2⟩ := R.caps (vs := vs.toList) hds (by simpa using hvs) (fun i hi => by simpa using hvc i hi)
        have hKnown : RArgs w (Known cx w) (as ++ ds.map .ptr) ((args.map a.eval) ++ vs).toList := by
          rw [Array.toList_append, Array.toList_map]
          exact rargs_app (R.args has) (rargs_ptr (by rw [Array.length_toList, hvs, c1]) c2)
        split
        · rename_i hal
          rcases run_shareLabs R (allCells (valsOf st args.toList)) (fun ws => callOut sp lin nm caps (as ++ ds.map .ptr) ws) with ⟨ws, m1, k3, R1, hup, hsh⟩ | k3
          · rw [k3]
            have hcaps0 : noCaps (as ++ ds.map .ptr) = true → ds = [] ∧ noCaps as = true := by
              intro h
              cases ds with
              | nil => exact ⟨rfl, by simpa using h⟩
              | cons d ds =>
                exfalso
                clear has k1 hKnown key k3 k2
                induction as with
                | nil => simp [noCaps] at h
                | cons y as ih =>
                  cases y with
                  | clo g ds' => simp only [List.cons_append, noCaps, Bool.and_eq_true] at h; exact ih h.2
                  | ptr l => simp [noCaps] at h
                  | c x => exact ih h
                  | agg l => exact ih h
            by_cases hn : noCaps (as ++ ds.map .ptr) = true
            · obtain ⟨rfl, hn'⟩ := hcaps0 hn
              refine key _ ws m1 (fun B => B < w.heap.size ∧ Sof cx m1 B) R1 (fun k hk => hup.none hk) (fun B h => h.1) (fun _ _ B h => h.2) (fun _ => ?_)
              have hvs0 : vs = #[] := by
                have : vs.size = 0 := by rw [hvs, ← c1]; rfl
                exact Array.eq_empty_of_size_eq_zero this
              subst hvs0
              simp only [List.map_nil, List.append_nil, Array.append_empty, Array.toList_map]
              have hA := R1.args_shared (l := args.toList) (xs := as) (by rw [valsOf_put]; exact has.up (fun h => hup.dof h) hup.1) (by rw [valsOf_put]; exact hsh) hn'
              -- the same in the smaller set
              have hmono : ∀ {xs : List Arg} {us : List Value}, RArgs w (Sof cx m1) xs us → RArgs w (fun B => B < w.heap.size ∧ Sof cx m1 B) xs us := by
                have he : Ext w w (Sof cx m1) (fun B => B < w.heap.size ∧ Sof cx m1 B) := ⟨Nat.le_refl _, fun _ _ _ => rfl, fun B h1 h2 => ⟨h1, h2⟩⟩
                intro xs
                induction xs with
                | nil => intro us h; cases us <;> exact h
                | cons x xs ih =>
                  intro us h
                  cases us with
                  | nil => exact h
                  | cons u us =>
                    refine ⟨?_, ih h.2⟩
                    cases x with
                    | c x => exact RD.ext he h.1
                    | agg l =>
                      obtain ⟨vs, e, hsz, hc⟩ := h.1
                      exact ⟨vs, e, hsz, fun i hi => by obtain ⟨u, hu, hr⟩ := hc i hi; exact ⟨u, hu, hr.ext he⟩⟩
                    | ptr l => exact Ptr.ext he h.1
                    | clo f cs =>
                      obtain ⟨vs, e, hsz, hc⟩ := h.1
                      exact ⟨vs, e, hsz, fun i hi => by obtain ⟨u, hu, hr⟩ := hc i hi; exact ⟨u, hu, hr.ext he⟩⟩
              exact hmono hA
            · refine key _ ws m1 (fun _ => False) R1 (fun k hk => hup.none hk) (fun B h => h.elim) (fun _ h => absurd h hn) (fun h => ?_)
              rcases h with h | h
              · exact absurd h hn
              · rw [hal] at h; cases h
          · rw [k3]; exact fun h => h.elim
        · rename_i hal
          exact key _ [] m (Known cx w) R (fun _ h => h) (fun B h => h.1) (fun h => absurd h hal) (fun _ => hKnown)
      · rw [k2]; exact fun h => h.elim
    · rw [k1]; exact fun h => h.elim

end
end Go.Abs

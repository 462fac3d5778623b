/-
  What a call returns: from the state at its end to the contract.
-/
import Derived.Test.YtcbiiijnaeibhaaAbsRegion
set_option linter.unusedVariables false
set_option linter.unusedSimpArgs false
namespace Go.Abs

def D.scalar : D → Bool | .int _ _ => true | .bool _ => true | .str _ => true | _ => false
/-- elements that are plain scalars -/
def D.flat (x : D) : Prop := ∀ i, i < x.len → (x.nth i).all D.scalar = true

def cellOk (al : Bool) (lb : Nat → Option Lab) : AC → RC → Prop
  | .d y, .d x => y = x ∧ (al = true ∨ x.scalar = true)
  | .own k, .own x => lb k = some (.owned x) ∧ (al = true ∨ x.flat)
  | .own k, .d x => (lb k = some (.owned x) ∧ (al = true ∨ x.flat)) ∨ (al = true ∧ lb k = some (.shared x))
  | .nils, .d x => x.isSl = true ∧ x.len = 0
  | .nils, .own x => x.isSl = true ∧ x.len = 0
  | _, _ => False
def cellsOk (al : Bool) (lb : Nat → Option Lab) : List AC → List RC → Prop
  | [], [] => True
  | c :: cs, r :: rs => cellOk al lb c r ∧ cellsOk al lb cs rs
  | _, _ => False
def auOk (al : Bool) (lb : Nat → Option Lab) : AU → RV → Prop
  | .c c, .c r => cellOk al lb c r
  | .agg cs, .agg rs => cellsOk al lb cs rs
  | _, _ => False
def ausOk (al : Bool) (lb : Nat → Option Lab) : List AU → List RV → Prop
  | [], [] => True
  | x :: xs, r :: rs => auOk al lb x r ∧ ausOk al lb xs rs
  | _, _ => False

/-- the value of a result's variable -/
def retOne (ty : Tys) (st : St) : ResultVar → Prop × AU
  | .tmp t => match (lk st.sl t).getD default with
    | .u x => (True, x)
    | _ => (False, default)
  | .cell t i => match (evLoad ty i ((lk st.sl t).getD default)).run st with
    | ⟨p, .u x, []⟩ => (p, x)
    | _ => (False, default)
def retAll (ty : Tys) (st : St) : List ResultVar → Prop × List AU
  | [] => (True, [])
  | r :: rs => ((retOne ty st r).1 ∧ (retAll ty st rs).1, (retOne ty st r).2 :: (retAll ty st rs).2)
def ausCells : List AU → List AC
  | [] => []
  | x :: r => x.cells ++ ausCells r

def labOf : AC → Option Nat
  | .own k => some k
  | _ => none
/-- labels of the results that are owned, in their order; labels of those that are shared -/
def ownLabs : List AC → List RC → List (Option Nat)
  | c :: cs, .own _ :: rs => labOf c :: ownLabs cs rs
  | _ :: cs, .d _ :: rs => ownLabs cs rs
  | _, _ => []
def shLabs : List AC → List RC → List Nat
  | c :: cs, .d _ :: rs => (labOf c).toList ++ shLabs cs rs
  | _ :: cs, .own _ :: rs => shLabs cs rs
  | _, _ => []
def ownAll : List AU → List RV → List (Option Nat)
  | x :: xs, r :: rs => ownLabs x.cells r.cells ++ ownAll xs rs
  | _, _ => []
def shAll : List AU → List RV → List Nat
  | x :: xs, r :: rs => shLabs x.cells r.cells ++ shAll xs rs
  | _, _ => []

/-- THE END of a call: its results are those of the spec. -/
def fin (ty : Tys) (fn : List ResultVar) (al : Bool) (rs : List RV) (st : St) : Prop :=
  (retAll ty st fn).1 ∧ ausOk al (lk st.lb) (retAll ty st fn).2 rs ∧ ((ownAll (retAll ty st fn).2 rs).filterMap id).Nodup ∧ ∀ k ∈ shAll (retAll ty st fn).2 rs, k ∉ (ownAll (retAll ty st fn).2 rs).filterMap id

section
variable {P : Program} {ty : Tys} {tb : Fns} {cx : Cx} {st : St} {m m1 m' : Mp} {a : Act} {w w' : World} {o : Oper} {out : Out} {ws : List Wr}

theorem RD.scalar_any {S S' : Nat → Prop} {x : D} {v : Value} (hs : x.scalar = true) (h : RD w S x v) : RD w S' x v := by
  cases x with
  | int k n => cases h; exact .int _ _
  | bool b => cases h; exact .bool _
  | str s => cases h; exact .str _
  | _ => simp [D.scalar] at hs

/-- the set of blocks in which results lie -/
def RS (cx : Cx) (al : Bool) (own : Nat → Option Nat) (B : Nat) : Prop := ((al = true ∧ cx.S0 B) ∨ cx.w0.heap.size ≤ B) ∧ ∀ j, own j ≠ some B

def ownBy (L : List (Option Nat)) (m : Mp) (j : Nat) : Option Nat := (L.getD j none).bind m.own

theorem ownBy_some {L : List (Option Nat)} {j B : Nat} (h : ownBy L m j = some B) : ∃ k, L[j]? = some (some k) ∧ m.own k = some B := by
  unfold ownBy at h
  rw [List.getD_eq_getElem?_getD] at h
  cases hl : L[j]? with
  | none => rw [hl] at h; cases h
  | some q =>
    rw [hl] at h
    cases q with
    | none => cases h
    | some k => exact ⟨k, rfl, h⟩

theorem nodup_ix {L : List (Option Nat)} : (L.filterMap id).Nodup → ∀ {i j k : Nat}, L[i]? = some (some k) → L[j]? = some (some k) → i = j := by
  induction L with
  | nil => intro _ i j k h; simp at h
  | cons q L ih =>
    intro hnd i j k hi hj
    have hmem : ∀ {i}, L[i]? = some (some k) → k ∈ L.filterMap id := fun h => List.mem_filterMap.2 ⟨_, List.mem_of_getElem? h, rfl⟩
    have hnd' : (L.filterMap id).Nodup ∧ (q = some k → k ∉ L.filterMap id) := by
      cases q with
      | none => exact ⟨by simpa using hnd, fun h => by cases h⟩
      | some k' =>
        simp only [List.filterMap_cons, id, List.nodup_cons] at hnd
        refine ⟨hnd.2, fun h => ?_⟩
        obtain rfl := Option.some.inj h
        exact hnd.1
    cases i with
    | zero =>
      cases j with
      | zero => rfl
      | succ j => exact absurd (hmem (by simpa using hj)) (hnd'.2 (by simpa using hi))
    | succ i =>
      cases j with
      | zero => exact absurd (hmem (by simpa using hi)) (hnd'.2 (by simpa using hj))
      | succ j => exact congrArg (· + 1) (ih hnd'.1 (k := k) (by simpa using hi) (by simpa using hj))

/-- rows of owned slices, in the set of the results' blocks -/
theorem row_ret (R : Rel cx st m a w) {al : Bool} {L : List (Option Nat)} {k B : Nat} {x : D} (hk : lk st.lb k = some (.owned x)) (hB : m.own k = some B) (hf : al = true ∨ x.flat) :
    Row w (RS cx al (ownBy L m)) B x := by
  obtain ⟨hs, hrow⟩ := R.owned k x hk
  obtain ⟨c, T, hc, hs, hx⟩ := hrow B hB
  refine ⟨c, T, hc, hs, fun i hi => ⟨(hx i hi).1, fun j hj => ?_⟩⟩
  obtain ⟨u, hu, hr⟩ := (hx i hi).2 j hj
  refine ⟨u, hu, ?_⟩
  rcases hf with rfl | hf
  · refine RD.ext ⟨Nat.le_refl _, fun _ _ _ => rfl, fun B' _ h => ⟨?_, fun j hj => ?_⟩⟩ hr
    · rcases h.1 with h | h
      · exact .inl ⟨rfl, h⟩
      · exact .inr h
    · obtain ⟨k', _, h2⟩ := ownBy_some hj
      exact h.2.1 k' h2
  · have := List.all_eq_true.1 (hf i hi) ((x.nth i).getD j .undef) (by
      rw [List.getD_eq_getElem?_getD, List.getElem?_eq_getElem (by rw [(hx i hi).1]; exact hj)]
      exact List.getElem_mem _)
    exact RD.scalar_any this hr

theorem cell_ret_d (R : Rel cx st m a w) {al : Bool} {L : List (Option Nat)} {c : AC} {x : D} {v : Value} (h : cellOk al (lk st.lb) c (.d x)) (hv : RCl cx m w (lk st.lb) c v)
    (hsh : ∀ k, c = .own k → k ∉ L.filterMap id) : RD w (RS cx al (ownBy L m)) x v := by
  have hSof : al = true → Ext w w (Sof cx m) (RS cx al (ownBy L m)) := fun ha => ⟨Nat.le_refl _, fun _ _ _ => rfl, fun B _ h => ⟨by
    rcases h.1 with h | h
    · exact .inl ⟨ha, h⟩
    · exact .inr h, fun j hj => by
    obtain ⟨k', _, h2⟩ := ownBy_some hj
    exact h.2.1 k' h2⟩⟩
  cases c with
  | d y =>
    obtain ⟨rfl, h⟩ := h
    rcases h with h | h
    · exact RD.ext (hSof h) hv
    · exact RD.scalar_any h hv
  | nils =>
    obtain ⟨h1, h2⟩ := h
    obtain rfl := hv
    rw [D.eta h1, h2]; exact .sl0 _ _ _ _
  | own k =>
    simp only [RCl] at hv
    rcases h with ⟨hk, hf⟩ | ⟨ha, hk⟩
    · simp only [hk] at hv
      have hs := (R.owned k x hk).1
      cases hB : m.own k with
      | none =>
        simp only [hB, Hdl] at hv
        obtain ⟨rfl, hn⟩ := hv
        rw [D.eta hs, hn]; exact .sl0 _ _ _ _
      | some B =>
        simp only [hB, Hdl] at hv
        obtain ⟨cap, c, T, rfl, _, _, hle⟩ := hv
        refine row_rd (row_ret R hk hB hf) ⟨.inr (R.ownb k B hB).1, fun j hj => ?_⟩ (R.ownb k B hB).2 hle
        obtain ⟨k', h1, h2⟩ := ownBy_some hj
        obtain rfl := R.injo _ _ _ h2 hB
        exact hsh _ rfl (List.mem_filterMap.2 ⟨_, List.mem_of_getElem? h1, rfl⟩)
    · simp only [hk] at hv
      exact hv.2.ext (hSof ha)
  | _ => exact h.elim

theorem cells_ret (R : Rel cx st m a w) {al : Bool} {L : List (Option Nat)} : ∀ {cs : List AC} {rs : List RC} {vs : List Value} {j : Nat}, cellsOk al (lk st.lb) cs rs → vs.length = cs.length →
      (∀ i, i < cs.length → ∃ u, vs[i]? = some u ∧ RCl cx m w (lk st.lb) (cs.getD i .undef) u) →
      (∀ i q, (ownLabs cs rs)[i]? = some q → L[j + i]? = some q) → (∀ k ∈ shLabs cs rs, k ∉ L.filterMap id) → RRcs w (RS cx al (ownBy L m)) (ownBy L m) j rs vs ∧ (ownLabs cs rs).length = nOwn rs
  | [], [], [], j, _, _, _, _, _ => ⟨trivial, rfl⟩
  | [], [], _ :: _, _, _, h, _, _, _ => by simp at h
  | [], _ :: _, _, _, h, _, _, _, _ => h.elim
  | _ :: _, [], _, _, h, _, _, _, _ => h.elim
  | c :: cs, r :: rs, [], _, _, h, _, _, _ => by simp at h
  | c :: cs, r :: rs, v :: vs, j, hok, hl, hv, hL, hsh => by
    obtain ⟨u, hu, h0⟩ := hv 0 (by simp)
    obtain rfl : v = u := by simpa using hu
    simp only [List.getD_cons_zero] at h0
    have hv' : ∀ i, i < cs.length → ∃ u, vs[i]? = some u ∧ RCl cx m w (lk st.lb) (cs.getD i .undef) u := fun i hi => by simpa using hv (i + 1) (by simpa using hi)
    cases r with
    | d x =>
      obtain ⟨g1, g2⟩ := cells_ret R (j := j) hok.2 (by simpa using hl) hv' hL (fun k hk => hsh k (by simp only [shLabs]; exact List.mem_append.2 (.inr hk)))
      refine ⟨⟨cell_ret_d R hok.1 h0 (fun k e => hsh k ?_), g1⟩, g2⟩
      subst e
      simp [shLabs, labOf]
    | own x =>
      have hL0 : L[j]? = some (labOf c) := by simpa using hL 0 _ (by simp [ownLabs])
      obtain ⟨g1, g2⟩ := cells_ret R (j := j + 1) hok.2 (by simpa using hl) hv' (fun i q hq => by
        have := hL (i + 1) q (by simpa [ownLabs] using hq)
        rwa [show j + (i + 1) = j + 1 + i by omega] at this) hsh
      have hown : ownBy L m j = (labOf c).bind m.own := by
        unfold ownBy
        rw [List.getD_eq_getElem?_getD, hL0]; rfl
      refine ⟨⟨?_, g1⟩, by simp [ownLabs, nOwn, g2]⟩
      cases c with
      | nils =>
        obtain ⟨h1, h2⟩ := hok.1
        obtain rfl := h0
        refine ⟨h1, ?_, fun B hB => by rw [hown] at hB; cases hB⟩
        rw [hown]; exact ⟨rfl, h2⟩
      | own k =>
        obtain ⟨hk, hf⟩ := hok.1
        simp only [RCl, hk] at h0
        simp only [labOf, Option.bind_some] at hown
        refine ⟨(R.owned k x hk).1, by rw [hown]; exact h0, fun B hB => ?_⟩
        rw [hown] at hB
        exact row_ret R hk hB hf
      | _ => exact hok.1.elim

theorem au_ret (R : Rel cx st m a w) {al : Bool} {L : List (Option Nat)} {x : AU} {r : RV} {v : Value} {j : Nat} (hok : auOk al (lk st.lb) x r) (hv : RU cx m w (lk st.lb) x v)
    (hL : ∀ i q, (ownLabs x.cells r.cells)[i]? = some q → L[j + i]? = some q) (hsh : ∀ k ∈ shLabs x.cells r.cells, k ∉ L.filterMap id) :
    RRv w (RS cx al (ownBy L m)) (ownBy L m) j r v ∧ (ownLabs x.cells r.cells).length = nOwn r.cells := by
  cases x with
  | c c =>
    cases r with
    | c r => exact cells_ret R (cs := [c]) (rs := [r]) (vs := [v]) ⟨hok, trivial⟩ rfl (fun i hi => by
        have : i = 0 := by simp at hi; omega
        subst this; exact ⟨v, rfl, hv⟩) hL hsh
    | agg _ => exact hok.elim
  | agg cs =>
    cases r with
    | c _ => exact hok.elim
    | agg rs =>
      obtain ⟨vs, rfl, hsz, hc⟩ := hv
      obtain ⟨g1, g2⟩ := cells_ret R (cs := cs) (rs := rs) (vs := vs.toList) (j := j) hok (by simpa using hsz) (fun i hi => by simpa using hc i hi) hL hsh
      exact ⟨⟨vs, rfl, g1⟩, g2⟩

theorem aus_ret (R : Rel cx st m a w) {al : Bool} {L : List (Option Nat)} : ∀ {xs : List AU} {rs : List RV} {vs : List Value} {j : Nat}, ausOk al (lk st.lb) xs rs → vs.length = xs.length →
      (∀ i, i < xs.length → ∃ u, vs[i]? = some u ∧ RU cx m w (lk st.lb) (xs.getD i default) u) →
      (∀ i q, (ownAll xs rs)[i]? = some q → L[j + i]? = some q) → (∀ k ∈ shAll xs rs, k ∉ L.filterMap id) → RRvs w (RS cx al (ownBy L m)) (ownBy L m) j rs vs
  | [], [], [], _, _, _, _, _, _ => trivial
  | [], [], _ :: _, _, _, h, _, _, _ => by simp at h
  | [], _ :: _, _, _, h, _, _, _, _ => h.elim
  | _ :: _, [], _, _, h, _, _, _, _ => h.elim
  | _ :: _, _ :: _, [], _, _, h, _, _, _ => by simp at h
  | x :: xs, r :: rs, v :: vs, j, hok, hl, hv, hL, hsh => by
    obtain ⟨u, hu, h0⟩ := hv 0 (by simp)
    obtain rfl : v = u := by simpa using hu
    have hL1 : ∀ i q, (ownLabs x.cells r.cells)[i]? = some q → L[j + i]? = some q := fun i q hq => hL i q (by
      simp only [ownAll]; rw [List.getElem?_append_left (List.getElem?_eq_some_iff.1 hq).1]; exact hq)
    obtain ⟨g1, g2⟩ := au_ret R hok.1 h0 hL1 (fun k hk => hsh k (by simp only [shAll]; exact List.mem_append.2 (.inl hk)))
    refine ⟨g1, aus_ret R hok.2 (by simpa using hl) (fun i hi => by simpa using hv (i + 1) (by simpa using hi)) (fun i q hq => ?_) (fun k hk => hsh k (by simp only [shAll]; exact List.mem_append.2 (.inr hk)))⟩
    have := hL ((ownLabs x.cells r.cells).length + i) q (by
      simp only [ownAll]; rw [List.getElem?_append_right (by omega)]; simpa using hq)
    rwa [← Nat.add_assoc, g2] at this

def resSem (tmps : Array Value) : ResultVar → Sem Value
  | .tmp t => pure (tmps.getD t undef)
  | .cell x t => do loadVar t (← asAddr (tmps.getD x undef))
theorem results_eq (fn : Func) (tmps : Array Value) : results fn tmps = (do
    let vs ← fn.results.mapM (resSem tmps)
    pure (if h : vs.size = 1 then vs[0] else .tuple vs)) := by
  unfold results
  congr 1

/-- the values of the results' variables -/
theorem retOne_run (hty : TyOk P ty) (R : Rel cx st m a w) {r : ResultVar} (h : (retOne ty st r).1) :
    ∃ v, (resSem a.tmps r).run P w = .ok v w ∧ RU cx m w (lk st.lb) (retOne ty st r).2 v := by
  cases r with
  | tmp t =>
    simp only [retOne] at h ⊢
    have hx := R.val (.tmp t)
    simp only [valOf, Act.eval] at hx
    generalize (lk st.sl t).getD default = av at *
    split at h
    · exact ⟨_, rfl, hx⟩
    · exact h.elim
  | cell x t =>
    simp only [retOne] at h ⊢
    have hx : RA cx m w (lk st.lb) ((lk st.sl x).getD default) (a.tmps.getD x undef) := R.val (.tmp x)
    have hg := fun ho => evLoad_val (P := P) hty R (t := t) hx ho
    generalize hq : (evLoad ty t ((lk st.sl x).getD default)).run st = q at *
    obtain ⟨p, d, ws⟩ := q
    split at h
    · rename_i p' y he
      simp only [Out.mk.injEq] at he
      obtain ⟨rfl, rfl, rfl⟩ := he
      obtain ⟨b, v, hp, hv, hr, _⟩ := hg h
      exact ⟨v, by simp [resSem, hp, asAddr, hv], hr⟩
    · exact h.elim

theorem retAll_run (hty : TyOk P ty) (R : Rel cx st m a w) : ∀ {rs : List ResultVar}, (retAll ty st rs).1 →
    ∃ vs : List Value, (rs.mapM (resSem a.tmps)).run P w = .ok vs w ∧
      vs.length = rs.length ∧ (retAll ty st rs).2.length = rs.length ∧ ∀ i, i < rs.length → ∃ u, vs[i]? = some u ∧ RU cx m w (lk st.lb) ((retAll ty st rs).2.getD i default) u
  | [], _ => ⟨[], rfl, rfl, rfl, fun i hi => by simp at hi⟩
  | r :: rs, h => by
    obtain ⟨v, h1, h2⟩ := retOne_run (P := P) hty R h.1
    obtain ⟨vs, g1, g2, g3, g4⟩ := retAll_run hty R h.2
    refine ⟨v :: vs, ?_, by simp [g2], by simp [retAll, g3], fun i hi => ?_⟩
    · simp only [List.mapM_cons, Sem.run_bind, h1, Result.andThen_ok, g1, Sem.run_pure]
    · cases i with
      | zero => exact ⟨v, rfl, h2⟩
      | succ i => simpa [retAll] using g4 i (by simpa using hi)

/-- THE END of a call gives the contract's result. -/
theorem fin_left (hty : TyOk P ty) (R : Rel cx st m a w) {fn : Func} {sp : FSpec} {args : List Arg} (hf : fin ty fn.results.toList sp.alias (sp.res args) st) :
    ∃ v, (results fn a.tmps).run P w = .ok v w ∧ Left cx.w0 w cx.S0 sp args v := by
  obtain ⟨h1, h2, h3, h4⟩ := hf
  obtain ⟨vs, g1, g2, g3, g4⟩ := retAll_run (P := P) hty R h1
  have hrun : (fn.results.mapM (resSem a.tmps)).run P w = .ok vs.toArray w := by
    rw [Array.mapM_eq_mapM_toList]
    simp only [Sem.run_map, g1, Result.andThen_ok]
  have hrr := aus_ret R (al := sp.alias) (L := ownAll (retAll ty st fn.results.toList).2 (sp.res args)) (vs := vs) (j := 0) h2 (by rw [g2, g3]) (fun i hi => g4 i (by rw [← g3]; exact hi)) (fun i q hq => by rw [Nat.zero_add]; exact hq) h4
  refine ⟨_, by rw [results_eq, Sem.run_bind, hrun]; rfl, R.env, R.size, R.old, ownBy (ownAll (retAll ty st fn.results.toList).2 (sp.res args)) m, fun j B hj => ?_, fun i j B hi hj => ?_, ?_⟩
  · obtain ⟨k, _, hk⟩ := ownBy_some hj
    exact R.ownb k B hk
  · obtain ⟨k, e1, hk⟩ := ownBy_some hi
    obtain ⟨k', e2, hk'⟩ := ownBy_some hj
    obtain rfl := R.injo _ _ _ hk hk'
    exact nodup_ix h3 e1 e2
  · show RRes w (RS cx sp.alias _) _ _ _
    generalize ownBy (ownAll (retAll ty st fn.results.toList).2 (sp.res args)) m = own at *
    unfold RRes
    split
    · rename_i r hr
      rw [hr] at hrr
      match vs, hrr with
      | [v], hrr => simpa using hrr.1
      | [], hrr => exact hrr.elim
      | _ :: _ :: _, hrr => exact hrr.2.elim
    · rename_i hne
      have hlen : vs.length ≠ 1 := by
        intro hl
        match vs, hl with
        | [v], _ =>
          generalize sp.res args = rs at *
          match rs, hrr with
          | [], h => exact h
          | [r], _ => exact hne r rfl
          | _ :: _ :: _, h => exact h.2
      refine ⟨vs.toArray, ?_, hrr⟩
      rw [dif_neg (by simpa using hlen)]

end
end Go.Abs

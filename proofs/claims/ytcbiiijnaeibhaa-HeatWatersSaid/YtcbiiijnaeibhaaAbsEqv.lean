/-
  Data that reads alike.
-/
import Derived.Test.YtcbiiijnaeibhaaAbsWeak
set_option linter.unusedVariables false
set_option linter.unusedSimpArgs false
namespace Go.Abs

/-- Data that no program tells apart: slices alike as far as they go. -/
inductive Eqv : D → D → Prop
  | refl (d) : Eqv d d
  | nil (s s' g g') : Eqv (.sl s 0 g) (.sl s' 0 g')
  | sl (s n g g') (hl : ∀ i, i < n → (g i).length = (g' i).length) (he : ∀ i j, i < n → j < s → Eqv ((g i).getD j .undef) ((g' i).getD j .undef)) : Eqv (.sl s n g) (.sl s n g')

theorem RD.eqv {w : World} {S : Nat → Prop} {d d' : D} {v : Value} (h : Eqv d d') (hr : RD w S d v) : RD w S d' v := by
  induction h generalizing v with
  | refl d => exact hr
  | nil s s' g g' =>
    cases hr with
    | sl0 s g ao cap => exact .sl0 _ _ _ _
    | sl s n g B o cap f hn => omega
  | sl s n g g' hl he ih =>
    cases hr with
    | sl0 s g ao cap => exact .sl0 _ _ _ _
    | sl s n g B o cap f hn hcap hB hS hl' hc hr =>
      exact .sl s n g' B o cap f hn hcap hB hS (fun i hi => by rw [← hl i hi]; exact hl' i hi) hc (fun i j hi hj => ih i j hi hj (hr i j hi hj))

/-- Alike, and of one stride: for what is owned. -/
def EqvO (x y : D) : Prop :=
  x.isSl = true ∧ y.isSl = true ∧ x.stride = y.stride ∧ x.len = y.len ∧ ∀ i, i < x.len → (x.nth i).length = (y.nth i).length ∧ ∀ j, Eqv ((x.nth i).getD j .undef) ((y.nth i).getD j .undef)
theorem EqvO.refl {x : D} (h : x.isSl = true) : EqvO x x := ⟨h, h, rfl, rfl, fun _ _ => ⟨rfl, fun _ => .refl _⟩⟩
theorem EqvO.eqv {x y : D} (h : EqvO x y) : Eqv x y := by
  obtain ⟨h1, h2, h3, h4, h5⟩ := h
  rw [D.eta h1, D.eta h2, ← h3, ← h4]
  exact .sl _ _ _ _ (fun i hi => (h5 i hi).1) (fun i j hi _ => (h5 i hi).2 j)
theorem EqvO.of_nth {x y : D} (h1 : x.isSl = true) (h2 : y.isSl = true) (h3 : x.stride = y.stride) (h4 : x.len = y.len) (h5 : ∀ i, i < x.len → x.nth i = y.nth i) : EqvO x y :=
  ⟨h1, h2, h3, h4, fun i hi => by rw [h5 i hi]; exact ⟨rfl, fun _ => .refl _⟩⟩
theorem Row.eqv {w : World} {S : Nat → Prop} {B : Nat} {x y : D} (h : EqvO x y) (hr : Row w S B x) : Row w S B y := by
  obtain ⟨c, T, hc, hs, hx⟩ := hr
  obtain ⟨h1, h2, h3, h4, h5⟩ := h
  refine ⟨c, T, hc, h2, fun i hi => ?_⟩
  rw [← h4] at hi
  obtain ⟨g1, g2⟩ := hx i hi
  refine ⟨by rw [← (h5 i hi).1, g1, h3], fun j hj => ?_⟩
  rw [← h3] at hj
  obtain ⟨u, hu, hd⟩ := g2 j hj
  exact ⟨u, by rw [← h3]; exact hu, hd.eqv ((h5 i hi).2 j)⟩
theorem Hdl.eqv {w : World} {o : Option Nat} {x y : D} {v : Value} (h : EqvO x y) (hr : Hdl w o x v) : Hdl w o y v := by
  obtain ⟨h1, h2, h3, h4, h5⟩ := h
  cases o with
  | none => exact ⟨hr.1, by rw [← h4]; exact hr.2⟩
  | some B =>
    obtain ⟨cap, c, T, e1, e2, e3, e4⟩ := hr
    exact ⟨cap, c, T, by rw [← h4]; exact e1, e2, by rw [← h3]; exact e3, by rw [← h4]; exact e4⟩

def eqvAC : AC → AC → Prop
  | .d x, .d y => Eqv x y
  | .nils, .d y => y.isSl = true ∧ y.len = 0
  | a, b => a = b
def eqvACs : List AC → List AC → Prop
  | [], [] => True
  | x :: r, y :: s => eqvAC x y ∧ eqvACs r s
  | _, _ => False
def eqvAV : AV → AV → Prop
  | .u (.c x), .u (.c y) => eqvAC x y
  | .u (.agg l), .u (.agg r) => eqvACs l r
  | _, _ => False
def eqvLab : Lab → Lab → Prop
  | .owned x, .owned y => EqvO x y
  | .shared x, .shared y => y.isSl = true ∧ Eqv x y
  | .dead, .dead => True
  | _, _ => False
def zipR {α : Type} (R : α → α → Prop) : List (Nat × α) → List (Nat × α) → Prop
  | [], [] => True
  | (k, x) :: r, (k', y) :: s => (k = k' ∧ R x y) ∧ zipR R r s
  | _, _ => False

theorem lk_zip {α : Type} {R : α → α → Prop} : ∀ {l l' : List (Nat × α)}, zipR R l l' → ∀ k, (∀ y, lk l' k = some y → ∃ x, lk l k = some x ∧ R x y) ∧ (∀ x, lk l k = some x → ∃ y, lk l' k = some y ∧ R x y)
  | [], [], _, k => ⟨fun _ h => (by cases h), fun _ h => (by cases h)⟩
  | [], _ :: _, h, _ => h.elim
  | _ :: _, [], h, _ => h.elim
  | (a, x) :: r, (b, y) :: s, h, k => by
    obtain ⟨⟨rfl, h1⟩, h2⟩ := h
    simp only [lk]
    by_cases e : a = k
    · simp only [if_pos e]
      exact ⟨fun y' hy => ⟨x, rfl, by obtain rfl := Option.some.inj hy; exact h1⟩, fun x' hx => ⟨y, rfl, by obtain rfl := Option.some.inj hx; exact h1⟩⟩
    · simp only [if_neg e]
      exact lk_zip h2 k

theorem Eqv.nth {x y : D} (h : Eqv x y) {i : Nat} (hi : i < x.len) : i < y.len ∧ x.stride = y.stride ∧ (x.nth i).length = (y.nth i).length ∧ ∀ j, j < x.stride → Eqv ((x.nth i).getD j .undef) ((y.nth i).getD j .undef) := by
  cases h with
  | refl d => exact ⟨hi, rfl, rfl, fun _ _ => .refl _⟩
  | nil s s' g g' => exact absurd hi (by simp [D.len])
  | sl s n g g' hl he => exact ⟨hi, rfl, hl i hi, fun j hj => he i j hi hj⟩

theorem Ptr.eqv {w : World} {S : Nat → Prop} {l r : List D} {off : Nat} {v : Value} (hl : l.length = r.length) (he : ∀ j, j < l.length → Eqv (l.getD j .undef) (r.getD j .undef)) (h : Ptr w S l off v) : Ptr w S r off v := by
  obtain ⟨B, o, h1, h2, h3, h4⟩ := h
  refine ⟨B, o, h1, h2, h3, fun j hj => ?_⟩
  rw [← hl] at hj
  obtain ⟨u, hu, hr⟩ := h4 j hj
  exact ⟨u, hu, hr.eqv (he j hj)⟩

section
variable {cx : Cx} {st st' : St} {m : Mp} {a : Act} {w : World}

theorem rcl_eqv {lb lb' : Nat → Option Lab} (hl : ∀ k x, lb k = some x → ∃ y, lb' k = some y ∧ eqvLab x y) {x y : AC} {v : Value} (h : eqvAC x y) (hr : RCl cx m w lb x v) : RCl cx m w lb' y v := by
  cases x with
  | d x => cases y with
    | d y => exact RD.eqv h hr
    | _ => cases h
  | undef => cases h; exact hr
  | nils => cases y with
    | d y =>
      obtain ⟨h1, h2⟩ := h
      have hr : v = .slice none 0 0 := hr
      subst hr
      cases y with
      | sl s n g => obtain rfl : n = 0 := h2
                    exact RD.sl0 _ _ _ _
      | _ => cases h1
    | _ => first | (cases h; exact hr) | cases h
  | ref b off => cases h; exact hr
  | sptr l off => cases h; exact hr
  | clo f caps => cases h; exact hr
  | own k =>
    cases h
    simp only [RCl] at hr ⊢
    cases hk : lb k with
    | none => rw [hk] at hr; exact hr.elim
    | some L =>
      rw [hk] at hr
      obtain ⟨L', e1, e2⟩ := hl k L hk
      rw [e1]
      cases L <;> cases L' <;> first | exact e2.elim | skip
      · exact hr
      · exact Hdl.eqv e2 hr
      · exact ⟨e2.1, RD.eqv e2.2 hr.2⟩
  | optr k i off =>
    cases h
    simp only [RCl] at hr ⊢
    cases hk : lb k with
    | none => rw [hk] at hr; exact hr.elim
    | some L =>
      rw [hk] at hr
      obtain ⟨L', e1, e2⟩ := hl k L hk
      rw [e1]
      cases L <;> cases L' <;> first | exact e2.elim | skip
      · exact hr
      · obtain ⟨h1, h2, h3, h4, h5⟩ := e2
        exact ⟨by rw [← h4]; exact hr.1, by rw [← h3]; exact hr.2⟩
      · obtain ⟨g1, g2, g3⟩ := hr
        obtain ⟨n1, n2, n3, n4⟩ := e2.2.nth g1
        exact ⟨n1, by rw [← n3, g2, n2], Ptr.eqv n3 (fun j hj => n4 j (by omega)) g3⟩

theorem eqvACs_get : ∀ {l r : List AC}, eqvACs l r → r.length = l.length ∧ ∀ i, i < l.length → eqvAC (l.getD i .undef) (r.getD i .undef)
  | [], [], _ => ⟨rfl, fun i hi => absurd hi (by simp)⟩
  | [], _ :: _, h => h.elim
  | _ :: _, [], h => h.elim
  | x :: l, y :: r, h => by
    obtain ⟨g1, g2⟩ := eqvACs_get h.2
    refine ⟨by simp [g1], fun i hi => ?_⟩
    cases i with
    | zero => simpa using h.1
    | succ i => simpa using g2 i (by simpa using hi)

theorem eqvAC_refl (x : AC) : eqvAC x x := by
  cases x <;> first | exact Eqv.refl _ | rfl
theorem ra_eqv_self {lb lb' : Nat → Option Lab} (hl : ∀ k x, lb k = some x → ∃ y, lb' k = some y ∧ eqvLab x y) {x : AV} {v : Value} (hr : RA cx m w lb x v) : RA cx m w lb' x v := by
  have hu : ∀ {x : AU} {v : Value}, RU cx m w lb x v → RU cx m w lb' x v := fun {x v} hr => by
    cases x with
    | c x => exact rcl_eqv hl (eqvAC_refl x) hr
    | agg l =>
      obtain ⟨vs, e, hsz, hc⟩ := hr
      refine ⟨vs, e, hsz, fun i hi => ?_⟩
      obtain ⟨u, hu, hr⟩ := hc i hi
      exact ⟨u, hu, rcl_eqv hl (eqvAC_refl _) hr⟩
  cases x with
  | u x => exact hu hr
  | tup l =>
    obtain ⟨vs, e, hsz, hc⟩ := hr
    refine ⟨vs, e, hsz, fun i hi => ?_⟩
    obtain ⟨u, h1, h2⟩ := hc i hi
    exact ⟨u, h1, hu h2⟩
  | cnd b x => exact ⟨fun h => hu (hr.1 h), hr.2⟩

/-- A STATE that reads alike. -/
theorem Rel.eqv (R : Rel cx st m a w) (h1 : zipR eqvAV st.sl st'.sl) (h2 : zipR eqvACs st.bx st'.bx) (h3 : zipR eqvLab st.lb st'.lb) : Rel cx st' m a w := by
  have hl : ∀ k x, lk st.lb k = some x → ∃ y, lk st'.lb k = some y ∧ eqvLab x y := fun k => (lk_zip h3 k).2
  refine { defers := R.defers, nt := R.nt, env := R.env, size := R.size, old := R.old, s0 := R.s0, slots := fun t v h => ?_, sus := fun p hp => ra_eqv_self hl (R.sus p hp), boxes := fun b cs h => ?_, nobox := fun b h => ?_, owned := fun k x h => ?_, noown := fun k h => ?_,
           ownb := R.ownb, boxb := R.boxb, injo := R.injo, injb := R.injb, dis := R.dis }
  · obtain ⟨u, hu, he⟩ := (lk_zip h1 t).1 v h
    obtain ⟨r1, r2⟩ := R.slots t u hu
    refine ⟨r1, ?_⟩
    cases u with
    | u x =>
      cases v with
      | u y =>
        cases x with
        | c x => cases y with
          | c y => exact rcl_eqv hl he r2
          | agg l => exact he.elim
        | agg l => cases y with
          | c y => exact he.elim
          | agg r =>
            obtain ⟨vs, e, hsz, hc⟩ := r2
            obtain ⟨g1, g2⟩ := eqvACs_get he
            refine ⟨vs, e, by rw [g1]; exact hsz, fun i hi => ?_⟩
            rw [g1] at hi
            obtain ⟨z, hz, hr⟩ := hc i hi
            exact ⟨z, hz, rcl_eqv hl (g2 i hi) hr⟩
      | _ => cases x <;> exact he.elim
    | _ => exact he.elim
  · obtain ⟨cs0, hc, he⟩ := (lk_zip h2 b).1 cs h
    obtain ⟨B, c, T, e1, e2, e3, e4⟩ := R.boxes b cs0 hc
    obtain ⟨g1, g2⟩ := eqvACs_get he
    refine ⟨B, c, T, e1, e2, by rw [g1]; exact e3, fun j hj => ?_⟩
    rw [g1] at hj
    obtain ⟨u, hu, hr⟩ := e4 j hj
    exact ⟨u, hu, rcl_eqv hl (g2 j hj) hr⟩
  · refine R.nobox b ?_
    cases hb : lk st.bx b with
    | none => rfl
    | some cs =>
      obtain ⟨y, hy, _⟩ := (lk_zip h2 b).2 cs hb
      rw [h] at hy; cases hy
  · obtain ⟨L, hL, he⟩ := (lk_zip h3 k).1 _ h
    cases L with
    | owned y =>
      obtain ⟨r1, r2⟩ := R.owned k y hL
      exact ⟨he.2.1, fun B hB => Row.eqv he (r2 B hB)⟩
    | _ => exact he.elim
  · refine R.noown k (fun x hx => ?_)
    obtain ⟨L, hL, he⟩ := hl k _ hx
    cases L with
    | owned y => exact h y hL
    | _ => exact he.elim
end

section
variable {P : Program} {ty : Tys} {tb : Fns} {n : Nat} {draw : List Oper → St → Prop} {fin' : St → Prop} {stop : List K → St → Prop} {k : List K} {st : St} {sus : List AV}

/-- THE HEAD of a loop: a view that reads alike. -/
def Sees (sus : List AV) (ts : List Nat) (bs ks : List (Nat × Nat)) (st st' : St) : Prop :=
  keepAll bs ks (lk st.lb) sus ∧ oneOne bs ∧ oneOne ks ∧ (∃ s, mSl bs ks st ts = some s ∧ zipR eqvAV s st'.sl) ∧ (∃ s, mBx bs ks st bs = some s ∧ zipR eqvACs s st'.bx) ∧ ∃ s, mLb st ks = some s ∧ zipR eqvLab s st'.lb

theorem Stop.sees (S : Stop P ty tb n draw fin' stop sus) (ts : List Nat) (bs ks : List (Nat × Nat)) {st' : St} (hv : Sees sus ts bs ks st st') (h : stop k st') : stop k st := by
  obtain ⟨h0, h1, h2, ⟨s1, e1, z1⟩, ⟨s2, e2, z2⟩, ⟨s3, e3, z3⟩⟩ := hv
  exact S.weak st' (fun _ m _ _ _ hs R => ⟨m.view bs ks, Rel.eqv (R.view (st' := ⟨s1, s2, s3⟩) ⟨h1, h2, e1, e2, e3⟩ (by rw [hs]; exact h0)) z1 z2 z3⟩) h

/-- A nil slice, as an empty one that is owned: the slot and the new label. -/
theorem Stop.own0 (S : Stop P ty tb n draw fin' stop sus) (t j s : Nat) (ht : lk st.sl t = some (.c .nils)) (hj : lk st.lb j = none)
    (h : stop k ⟨(t, .c (.own j)) :: st.sl, st.bx, (j, .owned (.sl s 0 fun _ => [])) :: st.lb⟩) : stop k st := by
  refine S.weak _ (fun cx m a w _ _ R => ⟨m, ?_⟩) h
  have R' := R.newNil hj (x := .sl s 0 fun _ => []) rfl
  have hno : m.own j = none := R.noown j (fun x => by rw [hj]; simp)
  refine { R' with slots := fun t' v h => ?_ }
  simp only [lk] at h
  split at h
  · rename_i e; subst e
    obtain rfl := Option.some.inj h
    obtain ⟨r1, r2⟩ := R.slots _ _ ht
    refine ⟨r1, ?_⟩
    simp only [RA, RU, RCl, lk_same, hno]
    exact ⟨r2, rfl⟩
  · exact R'.slots t' v h
/-- The same for a cell of an aggregate in a slot. -/
theorem Stop.own0a (S : Stop P ty tb n draw fin' stop sus) (t i j s : Nat) {l : List AC} (ht : lk st.sl t = some (.agg l)) (hi : l.getD i .undef = .nils) (hil : i < l.length) (hj : lk st.lb j = none)
    (h : stop k ⟨(t, .agg (l.set i (.own j))) :: st.sl, st.bx, (j, .owned (.sl s 0 fun _ => [])) :: st.lb⟩) : stop k st := by
  refine S.weak _ (fun cx m a w _ _ R => ⟨m, ?_⟩) h
  have R' := R.newNil hj (x := .sl s 0 fun _ => []) rfl
  have hno : m.own j = none := R.noown j (fun x => by rw [hj]; simp)
  refine { R' with slots := fun t' v h => ?_ }
  simp only [lk] at h
  split at h
  · rename_i e; subst e
    obtain rfl := Option.some.inj h
    obtain ⟨r1, r2⟩ := R.slots _ _ ht
    obtain ⟨_, q⟩ := R'.slots _ _ ht
    refine ⟨r1, ?_⟩
    obtain ⟨vs, e, hsz, hc⟩ := r2
    obtain ⟨us, e', _, hc'⟩ := q
    refine ⟨vs, e, by simpa using hsz, fun q hq => ?_⟩
    simp only [List.length_set] at hq
    obtain ⟨u, hu, hr⟩ := hc q hq
    refine ⟨u, hu, ?_⟩
    by_cases hqi : q = i
    · subst hqi
      rw [hi] at hr
      have : (l.set q (.own j)).getD q .undef = .own j := by simp [List.getD_eq_getElem?_getD, hil]
      rw [this]
      simp only [RCl, lk_same, hno]
      exact ⟨hr, rfl⟩
    · obtain ⟨u', hu', hr'⟩ := hc' q hq
      rw [e'] at e
      obtain rfl : us = vs := by injection e
      rw [hu] at hu'
      obtain rfl := Option.some.inj hu'
      have : (l.set i (.own j)).getD q .undef = l.getD q .undef := by simp [List.getD_eq_getElem?_getD, Ne.symm hqi]
      rw [this]; exact hr'
  · exact R'.slots t' v h
/-- The same for a cell of a box. -/
theorem Stop.own0b (S : Stop P ty tb n draw fin' stop sus) (b i j s : Nat) {l : List AC} (hb : lk st.bx b = some l) (hi : l.getD i .undef = .nils) (hil : i < l.length) (hj : lk st.lb j = none)
    (h : stop k ⟨st.sl, (b, l.set i (.own j)) :: st.bx, (j, .owned (.sl s 0 fun _ => [])) :: st.lb⟩) : stop k st := by
  refine S.weak _ (fun cx m a w _ _ R => ⟨m, ?_⟩) h
  have R' := R.newNil hj (x := .sl s 0 fun _ => []) rfl
  have hno : m.own j = none := R.noown j (fun x => by rw [hj]; simp)
  refine { R' with boxes := fun b' cs h => ?_, nobox := fun b' h => ?_ }
  · simp only [lk] at h
    split at h
    · rename_i e; subst e
      obtain rfl := Option.some.inj h
      obtain ⟨B, c, T, g1, g2, g3, g4⟩ := R'.boxes _ _ hb
      obtain ⟨B0, c0, T0, f1, f2, f3, f4⟩ := R.boxes _ _ hb
      refine ⟨B, c, T, g1, g2, by simpa using g3, fun q hq => ?_⟩
      simp only [List.length_set] at hq
      obtain ⟨u, hu, hr⟩ := g4 q hq
      refine ⟨u, hu, ?_⟩
      by_cases hqi : q = i
      · subst hqi
        rw [f1] at g1
        obtain rfl := Option.some.inj g1
        rw [f2] at g2
        obtain ⟨rfl, rfl⟩ : c0 = c ∧ T0 = T := by simpa using g2
        obtain ⟨u0, hu0, hr0⟩ := f4 q hq
        rw [hu] at hu0
        obtain rfl := Option.some.inj hu0
        rw [hi] at hr0
        have : (l.set q (.own j)).getD q .undef = .own j := by simp [List.getD_eq_getElem?_getD, hil]
        rw [this]
        simp only [RCl, lk_same, hno]
        exact ⟨hr0, rfl⟩
      · have : (l.set i (.own j)).getD q .undef = l.getD q .undef := by simp [List.getD_eq_getElem?_getD, Ne.symm hqi]
        rw [this]; exact hr
    · exact R'.boxes b' cs h
  · simp only [lk] at h
    split at h
    · cases h
    · exact R'.nobox b' h
/-- What is owned, as shared. -/
theorem Stop.share (S : Stop P ty tb n draw fin' stop sus) (j : Nat) {x : D} (hj : lk st.lb j = some (.owned x)) (h : stop k ⟨st.sl, st.bx, (j, .shared x) :: st.lb⟩) : stop k st :=
  S.weak _ (fun _ m _ _ _ _ R => ⟨_, R.share hj⟩) h
end

/-! ## arguments and results that read alike -/
def eqvDs : List D → List D → Prop
  | [], [] => True
  | x :: r, y :: s => Eqv x y ∧ eqvDs r s
  | _, _ => False
def eqvArg : Arg → Arg → Prop
  | .c x, .c y => Eqv x y
  | .agg l, .agg r => eqvDs l r
  | .ptr l, .ptr r => eqvDs l r
  | a, b => a = b
def eqvArgs : List Arg → List Arg → Prop
  | [], [] => True
  | x :: r, y :: s => eqvArg x y ∧ eqvArgs r s
  | _, _ => False
theorem eqvDs_get : ∀ {l r : List D}, eqvDs l r → r.length = l.length ∧ ∀ i, i < l.length → Eqv (l.getD i .undef) (r.getD i .undef)
  | [], [], _ => ⟨rfl, fun i hi => absurd hi (by simp)⟩
  | [], _ :: _, h => h.elim
  | _ :: _, [], h => h.elim
  | x :: l, y :: r, h => by
    obtain ⟨g1, g2⟩ := eqvDs_get h.2
    refine ⟨by simp [g1], fun i hi => ?_⟩
    cases i with
    | zero => simpa using h.1
    | succ i => simpa using g2 i (by simpa using hi)
theorem RArg.eqv {w : World} {S : Nat → Prop} {x y : Arg} {v : Value} (h : eqvArg x y) (hr : RArg w S x v) : RArg w S y v := by
  cases x with
  | c x => cases y with
    | c y => exact RD.eqv h hr
    | _ => cases h
  | agg l => cases y with
    | agg r =>
      obtain ⟨vs, e, hsz, hc⟩ := hr
      obtain ⟨g1, g2⟩ := eqvDs_get h
      refine ⟨vs, e, by rw [g1]; exact hsz, fun i hi => ?_⟩
      rw [g1] at hi
      obtain ⟨u, hu, hd⟩ := hc i hi
      exact ⟨u, hu, hd.eqv (g2 i hi)⟩
    | _ => cases h
  | ptr l => cases y with
    | ptr r =>
      obtain ⟨g1, g2⟩ := eqvDs_get h
      exact Ptr.eqv g1.symm g2 hr
    | _ => cases h
  | clo f caps => cases h; exact hr
theorem RArgs.eqv {w : World} {S : Nat → Prop} : ∀ {l r : List Arg} {vs : List Value}, eqvArgs l r → RArgs w S l vs → RArgs w S r vs
  | [], [], _, _, h => h
  | [], _ :: _, _, h, _ => h.elim
  | _ :: _, [], _, h, _ => h.elim
  | _ :: _, _ :: _, [], _, h => h.elim
  | _ :: _, _ :: _, _ :: _, h, hr => ⟨RArg.eqv h.1 hr.1, RArgs.eqv h.2 hr.2⟩

theorem Eqv.scalar {x y : D} (h : Eqv x y) (hs : y.scalar = true) : x.scalar = true ∧ x = y := by
  cases h with
  | refl d => exact ⟨hs, rfl⟩
  | nil => cases hs
  | sl => cases hs
theorem EqvO.flat {x y : D} (h : EqvO x y) (hf : y.flat) : x.flat := by
  obtain ⟨h1, h2, h3, h4, h5⟩ := h
  intro i hi
  obtain ⟨g1, g2⟩ := h5 i hi
  have hy := hf i (by omega)
  rw [List.all_eq_true] at hy ⊢
  intro d hd
  obtain ⟨j, hj⟩ := List.mem_iff_getElem?.1 hd
  have hlt := (List.getElem?_eq_some_iff.1 hj).1
  have hq := g2 j
  rw [List.getD_eq_getElem?_getD, hj, Option.getD_some] at hq
  refine (hq.scalar (hy _ ?_)).1
  rw [List.getD_eq_getElem?_getD, List.getElem?_eq_getElem (by rw [← g1]; exact hlt)]
  exact List.getElem_mem _

def cellOkE (al : Bool) (lb : Nat → Option Lab) : AC → RC → Prop
  | .d y, .d x => Eqv y x ∧ (al = true ∨ x.scalar = true)
  | .own k, .own x => ∃ z, lb k = some (.owned z) ∧ EqvO z x ∧ (al = true ∨ x.flat)
  | .own k, .d x => (∃ z, lb k = some (.owned z) ∧ EqvO z x ∧ (al = true ∨ x.flat)) ∨ (al = true ∧ ∃ z, lb k = some (.shared z) ∧ Eqv z x)
  | .nils, .d x => x.isSl = true ∧ x.len = 0
  | .nils, .own x => x.isSl = true ∧ x.len = 0
  | _, _ => False
def cellsOkE (al : Bool) (lb : Nat → Option Lab) : List AC → List RC → Prop
  | [], [] => True
  | c :: cs, r :: rs => cellOkE al lb c r ∧ cellsOkE al lb cs rs
  | _, _ => False
def auOkE (al : Bool) (lb : Nat → Option Lab) : AU → RV → Prop
  | .c c, .c r => cellOkE al lb c r
  | .agg cs, .agg rs => cellsOkE al lb cs rs
  | _, _ => False
def ausOkE (al : Bool) (lb : Nat → Option Lab) : List AU → List RV → Prop
  | [], [] => True
  | x :: xs, r :: rs => auOkE al lb x r ∧ ausOkE al lb xs rs
  | _, _ => False

def eqvRC : RC → RC → Prop
  | .d x, .d y => Eqv x y
  | .own x, .own y => EqvO x y
  | _, _ => False
def eqvRCs : List RC → List RC → Prop
  | [], [] => True
  | x :: r, y :: s => eqvRC x y ∧ eqvRCs r s
  | _, _ => False
def eqvRV : RV → RV → Prop
  | .c x, .c y => eqvRC x y
  | .agg l, .agg r => eqvRCs l r
  | _, _ => False
def eqvRVs : List RV → List RV → Prop
  | [], [] => True
  | x :: r, y :: s => eqvRV x y ∧ eqvRVs r s
  | _, _ => False

theorem cell_e {al : Bool} {lb : Nat → Option Lab} {c : AC} {r : RC} (h : cellOkE al lb c r) : ∃ r', cellOk al lb c r' ∧ eqvRC r' r := by
  cases c with
  | d y => cases r with
    | d x => exact ⟨.d y, ⟨rfl, h.2.imp id (fun hs => (h.1.scalar hs).1)⟩, h.1⟩
    | own x => exact h.elim
  | own k => cases r with
    | d x =>
      rcases h with ⟨z, h1, h2, h3⟩ | ⟨h1, z, h2, h3⟩
      · exact ⟨.d z, .inl ⟨h1, h3.imp id (fun hf => h2.flat hf)⟩, h2.eqv⟩
      · exact ⟨.d z, .inr ⟨h1, h2⟩, h3⟩
    | own x =>
      obtain ⟨z, h1, h2, h3⟩ := h
      exact ⟨.own z, ⟨h1, h3.imp id (fun hf => h2.flat hf)⟩, h2⟩
  | nils => cases r with
    | d x => exact ⟨.d x, h, .refl _⟩
    | own x => exact ⟨.own x, h, .refl h.1⟩
  | _ => cases r <;> exact h.elim
theorem cells_e {al : Bool} {lb : Nat → Option Lab} : ∀ {cs : List AC} {rs : List RC}, cellsOkE al lb cs rs → ∃ rs', cellsOk al lb cs rs' ∧ eqvRCs rs' rs
  | [], [], _ => ⟨[], trivial, trivial⟩
  | [], _ :: _, h => h.elim
  | _ :: _, [], h => h.elim
  | _ :: _, _ :: _, h => by
    obtain ⟨r', h1, h2⟩ := cell_e h.1
    obtain ⟨rs', h3, h4⟩ := cells_e h.2
    exact ⟨r' :: rs', ⟨h1, h3⟩, ⟨h2, h4⟩⟩
theorem au_e {al : Bool} {lb : Nat → Option Lab} {x : AU} {r : RV} (h : auOkE al lb x r) : ∃ r', auOk al lb x r' ∧ eqvRV r' r := by
  cases x with
  | c x => cases r with
    | c r => obtain ⟨r', h1, h2⟩ := cell_e h; exact ⟨.c r', h1, h2⟩
    | agg r => exact h.elim
  | agg x => cases r with
    | c r => exact h.elim
    | agg r => obtain ⟨r', h1, h2⟩ := cells_e h; exact ⟨.agg r', h1, h2⟩
theorem aus_e {al : Bool} {lb : Nat → Option Lab} : ∀ {cs : List AU} {rs : List RV}, ausOkE al lb cs rs → ∃ rs', ausOk al lb cs rs' ∧ eqvRVs rs' rs
  | [], [], _ => ⟨[], trivial, trivial⟩
  | [], _ :: _, h => h.elim
  | _ :: _, [], h => h.elim
  | _ :: _, _ :: _, h => by
    obtain ⟨r', h1, h2⟩ := au_e h.1
    obtain ⟨rs', h3, h4⟩ := aus_e h.2
    exact ⟨r' :: rs', ⟨h1, h3⟩, ⟨h2, h4⟩⟩

theorem ownLabs_e : ∀ {r s : List RC}, eqvRCs r s → ∀ cs, ownLabs cs r = ownLabs cs s ∧ shLabs cs r = shLabs cs s ∧ nOwn r = nOwn s
  | [], [], _, cs => by cases cs <;> exact ⟨rfl, rfl, rfl⟩
  | [], _ :: _, h, _ => h.elim
  | _ :: _, [], h, _ => h.elim
  | x :: r, y :: s, h, [] => by
    have := (ownLabs_e h.2 []).2.2
    cases x <;> cases y <;> first | exact h.1.elim | exact ⟨rfl, rfl, by simpa [nOwn] using this⟩
  | x :: r, y :: s, h, c :: cs => by
    obtain ⟨h1, h2, h3⟩ := ownLabs_e h.2 cs
    cases x <;> cases y <;> first | exact h.1.elim | exact ⟨by simp [ownLabs, h1], by simp [shLabs, h2], by simp [nOwn, h3]⟩
theorem rvCells_e {r s : RV} (h : eqvRV r s) : eqvRCs r.cells s.cells := by
  cases r <;> cases s <;> first | exact h.elim | exact h | exact ⟨h, trivial⟩
theorem ownAll_e : ∀ {r s : List RV}, eqvRVs r s → ∀ xs, ownAll xs r = ownAll xs s ∧ shAll xs r = shAll xs s
  | [], [], _, xs => ⟨rfl, rfl⟩
  | [], _ :: _, h, _ => h.elim
  | _ :: _, [], h, _ => h.elim
  | x :: r, y :: s, h, [] => ⟨rfl, rfl⟩
  | x :: r, y :: s, h, c :: cs => by
    obtain ⟨h1, h2⟩ := ownAll_e h.2 cs
    obtain ⟨g1, g2, _⟩ := ownLabs_e (rvCells_e h.1) c.cells
    exact ⟨by simp [ownAll, h1, g1], by simp [shAll, h2, g2]⟩

theorem rrcs_e {w : World} {S : Nat → Prop} {own : Nat → Option Nat} : ∀ {r s : List RC} {j : Nat} {vs : List Value}, eqvRCs r s → RRcs w S own j r vs → RRcs w S own j s vs
  | [], [], _, _, _, h => h
  | [], _ :: _, _, _, h, _ => h.elim
  | _ :: _, [], _, _, h, _ => h.elim
  | .d x :: r, .d y :: s, j, [], _, hr => hr.elim
  | .own x :: r, .own y :: s, j, [], _, hr => hr.elim
  | .d x :: r, .d y :: s, j, v :: vs, h, hr => ⟨RD.eqv h.1 hr.1, rrcs_e h.2 hr.2⟩
  | .own x :: r, .own y :: s, j, v :: vs, h, hr => ⟨⟨h.1.2.1, Hdl.eqv h.1 hr.1.2.1, fun B hB => Row.eqv h.1 (hr.1.2.2 B hB)⟩, rrcs_e h.2 hr.2⟩
  | .d x :: r, .own y :: s, j, _, h, _ => h.1.elim
  | .own x :: r, .d y :: s, j, _, h, _ => h.1.elim
theorem rrv_e {w : World} {S : Nat → Prop} {own : Nat → Option Nat} {j : Nat} {r s : RV} {v : Value} (h : eqvRV r s) (hr : RRv w S own j r v) : RRv w S own j s v := by
  cases r <;> cases s <;> first | exact h.elim | skip
  · exact rrcs_e (r := [_]) (s := [_]) ⟨h, trivial⟩ hr
  · obtain ⟨vs, e, h2⟩ := hr
    exact ⟨vs, e, rrcs_e h h2⟩
theorem rrvs_e {w : World} {S : Nat → Prop} {own : Nat → Option Nat} : ∀ {r s : List RV} {j : Nat} {vs : List Value}, eqvRVs r s → RRvs w S own j r vs → RRvs w S own j s vs
  | [], [], _, _, _, h => h
  | [], _ :: _, _, _, h, _ => h.elim
  | _ :: _, [], _, _, h, _ => h.elim
  | _ :: _, _ :: _, _, [], _, hr => hr.elim
  | x :: r, y :: s, j, v :: vs, h, hr => ⟨rrv_e h.1 hr.1, by
      have := (ownLabs_e (rvCells_e h.1) []).2.2
      rw [← this]
      exact rrvs_e h.2 hr.2⟩
theorem rres_e {w : World} {S : Nat → Prop} {own : Nat → Option Nat} {r s : List RV} {v : Value} (h : eqvRVs r s) (hr : RRes w S own r v) : RRes w S own s v := by
  match r, s, h with
  | [], [], _ => exact hr
  | [x], [y], h => exact rrv_e h.1 hr
  | x :: x' :: r, y :: y' :: s, h =>
    obtain ⟨vs, e, h2⟩ := hr
    exact ⟨vs, e, rrvs_e h h2⟩
  | [], _ :: _, h => exact h.elim
  | _ :: _, [], h => exact h.elim
  | [_], _ :: _ :: _, h => exact h.2.elim
  | _ :: _ :: _, [_], h => exact h.2.elim

/-- THE END of a call: its results read as those of the spec. -/
def finE (ty : Tys) (fn : List ResultVar) (al : Bool) (rs : List RV) (st : St) : Prop :=
  (retAll ty st fn).1 ∧ ausOkE al (lk st.lb) (retAll ty st fn).2 rs ∧ ((ownAll (retAll ty st fn).2 rs).filterMap id).Nodup ∧ ∀ k ∈ shAll (retAll ty st fn).2 rs, k ∉ (ownAll (retAll ty st fn).2 rs).filterMap id

/-- A CONTRACT out of an abstract run of the body, drawn regions and all. -/
theorem valid_of {P : Program} {ty : Tys} {tb : Fns} {f : Nat} {fn : Func} {c : Code} {sp : FSpec} {n : Nat} (hty : TyOk P ty) (htb : FnsOk P tb) (hf : P.funcs[f]? = some fn) (hb : fn.body = some c) (hn : fn.ntmps = n)
    (nrm : List Arg → List Arg) (h : ∀ args, sp.pre args → eqvArgs args (nrm args) ∧ (nrm args).length ≤ n ∧ ∀ stop, Stop P ty tb n (drawn ty tb n) (finE ty fn.results.toList sp.alias (sp.res args)) stop → stop [.code c] (St.begin (nrm args))) : Valid P f sp := by
  refine valid_of_ar hty htb hf hb hn (fun cx e => drawn_ok hty htb cx e) (fun args => finE ty fn.results.toList sp.alias (sp.res args)) ?_ nrm (fun args w S vs hp hr => RArgs.eqv (h args hp).1 hr) (fun args hp => (h args hp).2.2) (fun args hp => (h args hp).2.1)
  intro args cx st m a w hp R hfin
  obtain ⟨h1, h2, h3, h4⟩ := hfin
  obtain ⟨rs', g1, g2⟩ := aus_e h2
  obtain ⟨e1, e2⟩ := ownAll_e g2 (retAll ty st fn.results.toList).2
  obtain ⟨v, k1, k2⟩ := fin_left (P := P) hty R (fn := fn) (sp := { sp with res := fun _ => rs' }) (args := args) ⟨h1, g1, by rw [e1]; exact h3, by rw [e1, e2]; exact h4⟩
  obtain ⟨own, q1, q2, q3⟩ := k2.res
  exact ⟨v, k1, ⟨k2.env, k2.size, k2.old, own, q1, q2, rres_e g2 q3⟩⟩

theorem eqv_self (d : D) : Eqv d d = True := eq_true (.refl d)
theorem eqv_int {j k : IntKind} {a b : Int} : Eqv (.int j a) (.int k b) = (j = k ∧ a = b) := by
  refine propext ⟨fun h => ?_, fun ⟨h1, h2⟩ => by subst h1; subst h2; exact .refl _⟩
  cases h; exact ⟨rfl, rfl⟩
theorem eqv_bool {a b : Bool} : Eqv (.bool a) (.bool b) = (a = b) := by
  refine propext ⟨fun h => ?_, fun h2 => by subst h2; exact .refl _⟩
  cases h; rfl

attribute [go_sem] cellOkE cellsOkE auOkE ausOkE finE eqv_self eqv_int eqv_bool Sees zipR eqvAV eqvAC eqvACs eqvLab eqvDs eqvArg eqvArgs
end Go.Abs

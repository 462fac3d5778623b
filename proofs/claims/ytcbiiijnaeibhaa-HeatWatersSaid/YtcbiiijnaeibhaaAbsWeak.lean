/-
  Weaker states: what a loop's head keeps. Slots, boxes and labels that are not listed are dropped; those that are listed may get a new name.
-/
import Derived.Test.YtcbiiijnaeibhaaAbsSimp
set_option linter.unusedVariables false
set_option linter.unusedSimpArgs false
namespace Go.Abs

/-- how cells read under other names: pairs of an old and a new name -/
def mCap (bs : List (Nat × Nat)) : Cap → Option Cap
  | .ref b off => (lk bs b).map fun b' => .ref b' off
  | .sptr l off => some (.sptr l off)
def mCaps (bs : List (Nat × Nat)) : List Cap → Option (List Cap)
  | [] => some []
  | x :: r => match mCap bs x, mCaps bs r with
    | some y, some s => some (y :: s)
    | _, _ => none
def mAC (bs ks : List (Nat × Nat)) (lb : Nat → Option Lab) : AC → Option AC
  | .undef => some .undef
  | .d x => some (.d x)
  | .nils => some .nils
  | .own k => match lk ks k with
    | some k' => some (.own k')
    | none => match lb k with
      | some (.shared x) => some (.d x)
      | some .dead => some .undef
      | _ => none
  | .ref b off => (lk bs b).map fun b' => .ref b' off
  | .optr k i off => match lk ks k with
    | some k' => some (.optr k' i off)
    | none => match lb k with
      | some (.shared x) => some (.sptr (x.nth i) off)
      | some .dead => some .undef
      | _ => none
  | .sptr l off => some (.sptr l off)
  | .clo f caps => (mCaps bs caps).map fun c => .clo f c
def mACs (bs ks : List (Nat × Nat)) (lb : Nat → Option Lab) : List AC → Option (List AC)
  | [] => some []
  | x :: r => match mAC bs ks lb x, mACs bs ks lb r with
    | some y, some s => some (y :: s)
    | _, _ => none
def mAU (bs ks : List (Nat × Nat)) (lb : Nat → Option Lab) : AU → Option AU
  | .c x => (mAC bs ks lb x).map .c
  | .agg l => (mACs bs ks lb l).map .agg
def mSl (bs ks : List (Nat × Nat)) (st : St) : List Nat → Option (List (Nat × AV))
  | [] => some []
  | t :: r => match lk st.sl t, mSl bs ks st r with
    | some (.u x), some s => match mAU bs ks (lk st.lb) x with
      | some y => some ((t, .u y) :: s)
      | none => none
    | _, _ => none
def mBx (bs ks : List (Nat × Nat)) (st : St) : List (Nat × Nat) → Option (List (Nat × List AC))
  | [] => some []
  | (b, b') :: r => match lk st.bx b, mBx bs ks st r with
    | some cs, some s => match mACs bs ks (lk st.lb) cs with
      | some y => some ((b', y) :: s)
      | none => none
    | _, _ => none
def mLb (st : St) : List (Nat × Nat) → Option (List (Nat × Lab))
  | [] => some []
  | (k, k') :: r => match lk st.lb k, mLb st r with
    | some l, some s => some ((k', l) :: s)
    | _, _ => none
def oneOne (l : List (Nat × Nat)) : Prop := (l.map (·.1)).Nodup ∧ (l.map (·.2)).Nodup
def mAV (bs ks : List (Nat × Nat)) (lb : Nat → Option Lab) : AV → Option AV
  | .u x => (mAU bs ks lb x).map .u
  | _ => none
/-- what suspended frames hold keeps its names -/
def keepAll (bs ks : List (Nat × Nat)) (lb : Nat → Option Lab) : List AV → Prop
  | [] => True
  | v :: r => mAV bs ks lb v = some v ∧ keepAll bs ks lb r
theorem keepAll_mem {bs ks : List (Nat × Nat)} {lb : Nat → Option Lab} : ∀ {l : List AV}, keepAll bs ks lb l → ∀ v ∈ l, mAV bs ks lb v = some v
  | [], _, v, h => by cases h
  | x :: r, h, v, hv => by
    rcases List.mem_cons.1 hv with rfl | hv
    · exact h.1
    · exact keepAll_mem h.2 v hv
/-- THE VIEW of a state: slots, boxes and labels that are kept. -/
def View (ts : List Nat) (bs ks : List (Nat × Nat)) (st st' : St) : Prop :=
  oneOne bs ∧ oneOne ks ∧ mSl bs ks st ts = some st'.sl ∧ mBx bs ks st bs = some st'.bx ∧ mLb st ks = some st'.lb

def rk (l : List (Nat × Nat)) (b : Nat) : Option Nat := lk (l.map fun p => (p.2, p.1)) b

theorem lk_mem {α : Type} {l : List (Nat × α)} {a : Nat} {b : α} (h : lk l a = some b) : (a, b) ∈ l := by
  induction l with
  | nil => cases h
  | cons p r ih =>
    obtain ⟨x, y⟩ := p
    simp only [lk] at h
    split at h
    · rename_i e; subst e; obtain rfl := Option.some.inj h; simp
    · exact List.mem_cons_of_mem _ (ih h)
theorem mem_lk {α : Type} {l : List (Nat × α)} {a : Nat} {b : α} (hn : (l.map (·.1)).Nodup) (h : (a, b) ∈ l) : lk l a = some b := by
  induction l with
  | nil => cases h
  | cons p r ih =>
    obtain ⟨x, y⟩ := p
    simp only [List.map_cons, List.nodup_cons] at hn
    simp only [lk]
    rcases List.mem_cons.1 h with e | h
    · cases e; rw [if_pos rfl]
    · have : x ≠ a := by
        rintro rfl
        exact hn.1 (List.mem_map.2 ⟨_, h, rfl⟩)
      rw [if_neg this]; exact ih hn.2 h
theorem rk_iff {l : List (Nat × Nat)} (h : oneOne l) {a b : Nat} : lk l a = some b ↔ rk l b = some a := by
  have hs : ((l.map fun p => (p.2, p.1)).map (·.1)).Nodup := by simpa [List.map_map, Function.comp_def] using h.2
  refine ⟨fun e => mem_lk hs (List.mem_map.2 ⟨_, lk_mem e, rfl⟩), fun e => ?_⟩
  obtain ⟨p, hp, e2⟩ := List.mem_map.1 (lk_mem e)
  cases p; cases e2
  exact mem_lk h.1 hp

theorem lk_mSl {bs ks : List (Nat × Nat)} {st : St} : ∀ {ts : List Nat} {s : List (Nat × AV)}, mSl bs ks st ts = some s → ∀ t v, lk s t = some v → ∃ x y, lk st.sl t = some (.u x) ∧ mAU bs ks (lk st.lb) x = some y ∧ v = .u y
  | [], s, h, t, v, hv => by simp only [mSl, Option.some.injEq] at h; subst h; cases hv
  | t0 :: r, s, h, t, v, hv => by
    simp only [mSl] at h
    split at h
    · rename_i x s' h1 h2
      split at h
      · rename_i y hy
        obtain rfl := Option.some.inj h
        simp only [lk] at hv
        split at hv
        · rename_i e; subst e; obtain rfl := Option.some.inj hv
          exact ⟨x, y, h1, hy, rfl⟩
        · exact lk_mSl h2 t v hv
      · cases h
    · cases h
theorem lk_mBx {bs ks : List (Nat × Nat)} {st : St} : ∀ {l : List (Nat × Nat)} {s : List (Nat × List AC)}, mBx bs ks st l = some s → ∀ b',
    (∀ cs', lk s b' = some cs' → ∃ b cs, rk l b' = some b ∧ lk st.bx b = some cs ∧ mACs bs ks (lk st.lb) cs = some cs') ∧ (lk s b' = none → rk l b' = none)
  | [], s, h, b' => by simp only [mBx, Option.some.injEq] at h; subst h; exact ⟨fun _ h => (by cases h), fun _ => rfl⟩
  | (b0, b1) :: r, s, h, b' => by
    simp only [mBx] at h
    split at h
    · rename_i cs s' h1 h2
      split at h
      · rename_i y hy
        obtain rfl := Option.some.inj h
        simp only [lk, rk, List.map_cons]
        split
        · refine ⟨fun cs' e => ?_, fun e => (by cases e)⟩
          obtain rfl := Option.some.inj e
          exact ⟨b0, cs, rfl, h1, hy⟩
        · exact lk_mBx h2 b'
      · cases h
    · cases h
theorem lk_mLb {st : St} : ∀ {l : List (Nat × Nat)} {s : List (Nat × Lab)}, mLb st l = some s → ∀ k',
    (∀ x, lk s k' = some x → ∃ k, rk l k' = some k ∧ lk st.lb k = some x) ∧ (∀ k, rk l k' = some k → lk s k' = lk st.lb k)
  | [], s, h, b' => by simp only [mLb, Option.some.injEq] at h; subst h; exact ⟨fun _ h => (by cases h), fun k h => (by cases h)⟩
  | (b0, b1) :: r, s, h, b' => by
    simp only [mLb] at h
    split at h
    · rename_i cs s' h1 h2
      obtain rfl := Option.some.inj h
      simp only [lk, rk, List.map_cons]
      split
      · refine ⟨fun cs' e => ?_, fun k e => ?_⟩
        · obtain rfl := Option.some.inj e
          exact ⟨b0, rfl, h1⟩
        · obtain rfl := Option.some.inj e
          exact h1.symm
      · exact lk_mLb h2 b'
    · cases h

section
variable {cx : Cx} {st st' : St} {m : Mp} {a : Act} {w : World} {ts : List Nat} {bs ks : List (Nat × Nat)}

def Mp.view (m : Mp) (bs ks : List (Nat × Nat)) : Mp := ⟨fun k => (rk ks k).bind m.own, fun b => (rk bs b).bind m.box⟩

theorem sof_view {B : Nat} (h : Sof cx m B) : Sof cx (m.view bs ks) B := by
  refine ⟨h.1, fun k => ?_, fun b => ?_⟩
  · simp only [Mp.view]
    cases rk ks k with
    | none => simp
    | some k0 => exact h.2.1 k0
  · simp only [Mp.view]
    cases rk bs b with
    | none => simp
    | some b0 => exact h.2.2 b0
theorem ext_view : Ext w w (Sof cx m) (Sof cx (m.view bs ks)) := ⟨Nat.le_refl _, fun _ _ _ => rfl, fun _ _ h => sof_view h⟩

theorem rcap_view (hb : oneOne bs) {x y : Cap} {v : Value} (h : mCap bs x = some y) (hr : RCap cx m w x v) : RCap cx (m.view bs ks) w y v := by
  cases x with
  | ref b off =>
    simp only [mCap, Option.map_eq_some_iff] at h
    obtain ⟨b', h1, rfl⟩ := h
    obtain ⟨B, h2, h3⟩ := hr
    exact ⟨B, by simp [Mp.view, (rk_iff hb).1 h1, h2], h3⟩
  | sptr l off =>
    obtain rfl := Option.some.inj h
    exact Ptr.ext ext_view hr
theorem rcaps_view (hb : oneOne bs) : ∀ {l r : List Cap}, mCaps bs l = some r → r.length = l.length ∧ ∀ i, i < l.length → mCap bs (l.getD i (.ref 0 0)) = some (r.getD i (.ref 0 0))
  | [], r, h => by obtain rfl := Option.some.inj h; exact ⟨rfl, fun i hi => absurd hi (by simp)⟩
  | x :: l, r, h => by
    simp only [mCaps] at h
    split at h
    · rename_i y s h1 h2
      obtain rfl := Option.some.inj h
      obtain ⟨g1, g2⟩ := rcaps_view hb h2
      refine ⟨by simp [g1], fun i hi => ?_⟩
      cases i with
      | zero => simpa using h1
      | succ i => simpa using g2 i (by simpa using hi)
    · cases h

theorem rcl_view (hb : oneOne bs) (hk : oneOne ks) (hl : mLb st ks = some st'.lb) {x y : AC} {v : Value} (h : mAC bs ks (lk st.lb) x = some y) (hr : RCl cx m w (lk st.lb) x v) :
    RCl cx (m.view bs ks) w (lk st'.lb) y v := by
  have hown : ∀ k k', lk ks k = some k' → lk st'.lb k' = lk st.lb k ∧ (m.view bs ks).own k' = m.own k := by
    intro k k' e
    have e' := (rk_iff hk).1 e
    exact ⟨(lk_mLb hl k').2 k e', by simp [Mp.view, e']⟩
  cases x with
  | undef => obtain rfl := Option.some.inj h; exact trivial
  | d x => obtain rfl := Option.some.inj h; exact RD.ext ext_view hr
  | nils => obtain rfl := Option.some.inj h; exact hr
  | own k =>
    simp only [mAC] at h
    cases e : lk ks k with
    | some k' =>
      simp only [e] at h
      obtain rfl := Option.some.inj h
      obtain ⟨e1, e2⟩ := hown k k' e
      simp only [RCl, e1] at hr ⊢
      cases hL : lk st.lb k with
      | none => rw [hL] at hr; exact hr.elim
      | some L =>
        rw [hL] at hr
        cases L with
        | dead => exact hr
        | shared x => exact ⟨hr.1, RD.ext ext_view hr.2⟩
        | owned x => simp only [e2]; exact hr
    | none =>
      simp only [e] at h
      simp only [RCl] at hr
      cases hL : lk st.lb k with
      | none => rw [hL] at hr; exact hr.elim
      | some L =>
        rw [hL] at hr h
        cases L with
        | dead => obtain rfl := Option.some.inj h; exact trivial
        | shared x => obtain rfl := Option.some.inj h; exact RD.ext ext_view hr.2
        | owned x => cases h
  | ref b off =>
    simp only [mAC, Option.map_eq_some_iff] at h
    obtain ⟨b', h1, rfl⟩ := h
    obtain ⟨B, h2, h3⟩ := hr
    exact ⟨B, by simp [Mp.view, (rk_iff hb).1 h1, h2], h3⟩
  | optr k i off =>
    simp only [mAC] at h
    cases e : lk ks k with
    | some k' =>
      simp only [e] at h
      obtain rfl := Option.some.inj h
      obtain ⟨e1, e2⟩ := hown k k' e
      simp only [RCl, e1] at hr ⊢
      cases hL : lk st.lb k with
      | none => rw [hL] at hr; exact hr.elim
      | some L =>
        rw [hL] at hr
        cases L with
        | dead => exact hr
        | shared x => exact ⟨hr.1, hr.2.1, Ptr.ext ext_view hr.2.2⟩
        | owned x => simp only [e2]; exact hr
    | none =>
      simp only [e] at h
      simp only [RCl] at hr
      cases hL : lk st.lb k with
      | none => rw [hL] at hr; exact hr.elim
      | some L =>
        rw [hL] at hr h
        cases L with
        | dead => obtain rfl := Option.some.inj h; exact trivial
        | shared x => obtain rfl := Option.some.inj h; exact Ptr.ext ext_view hr.2.2
        | owned x => cases h
  | sptr l off => obtain rfl := Option.some.inj h; exact Ptr.ext ext_view hr
  | clo f caps =>
    simp only [mAC, Option.map_eq_some_iff] at h
    obtain ⟨c', h1, rfl⟩ := h
    obtain ⟨vs, rfl, hsz, hc⟩ := hr
    obtain ⟨g1, g2⟩ := rcaps_view hb h1
    refine ⟨vs, rfl, by rw [g1]; exact hsz, fun i hi => ?_⟩
    rw [g1] at hi
    obtain ⟨u, hu, hr⟩ := hc i hi
    exact ⟨u, hu, rcap_view hb (g2 i hi) hr⟩

theorem mACs_get {lb : Nat → Option Lab} : ∀ {l r : List AC}, mACs bs ks lb l = some r → r.length = l.length ∧ ∀ i, i < l.length → mAC bs ks lb (l.getD i .undef) = some (r.getD i .undef)
  | [], r, h => by obtain rfl := Option.some.inj h; exact ⟨rfl, fun i hi => absurd hi (by simp)⟩
  | x :: l, r, h => by
    simp only [mACs] at h
    split at h
    · rename_i y s h1 h2
      obtain rfl := Option.some.inj h
      obtain ⟨g1, g2⟩ := mACs_get h2
      refine ⟨by simp [g1], fun i hi => ?_⟩
      cases i with
      | zero => simpa using h1
      | succ i => simpa using g2 i (by simpa using hi)
    · cases h

theorem ru_view (hb : oneOne bs) (hk : oneOne ks) (hl : mLb st ks = some st'.lb) {x y : AU} {v : Value} (h2 : mAU bs ks (lk st.lb) x = some y) (r2 : RU cx m w (lk st.lb) x v) : RU cx (m.view bs ks) w (lk st'.lb) y v := by
  cases x with
  | c x =>
    simp only [mAU, Option.map_eq_some_iff] at h2
    obtain ⟨z, h2, rfl⟩ := h2
    exact rcl_view hb hk hl h2 r2
  | agg l =>
    simp only [mAU, Option.map_eq_some_iff] at h2
    obtain ⟨z, h2, rfl⟩ := h2
    obtain ⟨vs, e, hsz, hc⟩ := r2
    obtain ⟨g1, g2⟩ := mACs_get h2
    refine ⟨vs, e, by rw [g1]; exact hsz, fun i hi => ?_⟩
    rw [g1] at hi
    obtain ⟨u, hu, hr⟩ := hc i hi
    exact ⟨u, hu, rcl_view hb hk hl (g2 i hi) hr⟩

/-- A STATE'S VIEW holds where the state holds. -/
theorem Rel.view (R : Rel cx st m a w) (hv : View ts bs ks st st') (hsus : keepAll bs ks (lk st.lb) (cx.sus.map (·.1))) : Rel cx st' (m.view bs ks) a w := by
  obtain ⟨hb, hk, v1, v2, v3⟩ := hv
  refine { defers := R.defers, nt := R.nt, env := R.env, size := R.size, old := R.old, s0 := R.s0, slots := fun t v h => ?_, sus := fun p hp => ?_, boxes := fun b cs h => ?_, nobox := fun b h => ?_, owned := fun k x h => ?_, noown := fun k h => ?_,
           ownb := fun k B h => ?_, boxb := fun b B h => ?_, injo := fun k k' B h h' => ?_, injb := fun b b' B h h' => ?_, dis := fun k b B h h' => ?_ }
  · obtain ⟨x, y, h1, h2, rfl⟩ := lk_mSl v1 t v h
    obtain ⟨r1, r2⟩ := R.slots t _ h1
    exact ⟨r1, ru_view hb hk v3 h2 r2⟩
  · have he := keepAll_mem hsus p.1 (List.mem_map.2 ⟨p, hp, rfl⟩)
    have hr := R.sus p hp
    revert he hr
    generalize p.1 = v
    intro he hr
    cases v with
    | u x =>
      simp only [mAV, Option.map_eq_some_iff] at he
      obtain ⟨y, h2, e⟩ := he
      cases e
      exact ru_view hb hk v3 h2 hr
    | _ => cases he
  · obtain ⟨b0, cs0, h1, h2, h3⟩ := (lk_mBx v2 b).1 cs h
    obtain ⟨B, c, T, e1, e2, e3, e4⟩ := R.boxes b0 cs0 h2
    obtain ⟨g1, g2⟩ := mACs_get h3
    refine ⟨B, c, T, by simp [Mp.view, h1, e1], e2, by rw [g1]; exact e3, fun j hj => ?_⟩
    rw [g1] at hj
    obtain ⟨u, hu, hr⟩ := e4 j hj
    exact ⟨u, hu, rcl_view hb hk v3 (g2 j hj) hr⟩
  · simp [Mp.view, (lk_mBx v2 b).2 h]
  · obtain ⟨k0, h1, h2⟩ := (lk_mLb v3 k).1 _ h
    obtain ⟨r1, r2⟩ := R.owned k0 x h2
    refine ⟨r1, fun B hB => ?_⟩
    simp only [Mp.view, h1, Option.bind_some] at hB
    exact Row.ext ext_view rfl (r2 B hB)
  · simp only [Mp.view]
    cases e : rk ks k with
    | none => rfl
    | some k0 =>
      have := (lk_mLb v3 k).2 k0 e
      exact R.noown k0 (fun x hx => h x (by rw [this]; exact hx))
  · simp only [Mp.view, Option.bind_eq_some_iff] at h
    obtain ⟨k0, _, h⟩ := h
    exact R.ownb _ _ h
  · simp only [Mp.view, Option.bind_eq_some_iff] at h
    obtain ⟨k0, _, h⟩ := h
    exact R.boxb _ _ h
  · simp only [Mp.view, Option.bind_eq_some_iff] at h h'
    obtain ⟨k0, e, h⟩ := h
    obtain ⟨k1, e', h'⟩ := h'
    obtain rfl := R.injo _ _ _ h h'
    have := (rk_iff hk).2 e
    rw [(rk_iff hk).2 e'] at this
    exact (Option.some.inj this).symm
  · simp only [Mp.view, Option.bind_eq_some_iff] at h h'
    obtain ⟨k0, e, h⟩ := h
    obtain ⟨k1, e', h'⟩ := h'
    obtain rfl := R.injb _ _ _ h h'
    have := (rk_iff hb).2 e
    rw [(rk_iff hb).2 e'] at this
    exact (Option.some.inj this).symm
  · simp only [Mp.view, Option.bind_eq_some_iff] at h h'
    obtain ⟨k0, _, h⟩ := h
    obtain ⟨b0, _, h'⟩ := h'
    exact R.dis _ _ _ h h'

/-- a nil slice, as an empty one that a label owns -/
def St.own0 (st : St) (t k s : Nat) : St := ⟨(t, .c (.own k)) :: st.sl, st.bx, (k, .owned (.sl s 0 fun _ => [])) :: st.lb⟩
end

section
variable {P : Program} {ty : Tys} {tb : Fns} {n : Nat} {draw : List Oper → St → Prop} {fin' : St → Prop} {stop : List K → St → Prop} {k : List K} {st : St} {sus : List AV}

/-- A LOOP: what holds at its head, and what falls. -/
theorem Stop.loop (S : Stop P ty tb n draw fin' stop sus) {c : Code} {A : Type} (head : A → St) (inv : A → Prop) (rank : A → Nat) (a0 : A) (h0 : inv a0)
    (init : stop (.lp c :: k) (head a0) → stop (.lp c :: k) st)
    (round : ∀ a, inv a → (∀ a', inv a' → rank a' < rank a → stop (.lp c :: k) (head a')) → stop (.code c :: .lp c :: k) (head a)) : stop (.lp c :: k) st := by
  refine init ?_
  have key : ∀ r a, rank a ≤ r → inv a → stop (.lp c :: k) (head a) := by
    intro r
    induction r with
    | zero => intro a hr hi; exact S.lp (round a hi (fun a' hi' hlt => by omega))
    | succ r ih => intro a hr hi; exact S.lp (round a hi (fun a' hi' hlt => ih a' (by omega) hi'))
  exact key _ a0 (Nat.le_refl _) h0
end

attribute [go_sem] mAV keepAll mCap mCaps mAC mACs mAU mSl mBx mLb oneOne View
end Go.Abs

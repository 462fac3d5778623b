/-
  Steps of states: a slot is set, the world grows, a box or a label comes, a cell is stored, a label changes.
-/
import Derived.Test.YtcbiiijnaeibhaaAbsMove
set_option linter.unusedVariables false
set_option linter.unusedSimpArgs false
namespace Go.Abs

def upd (f : Nat → Option Nat) (k : Nat) (v : Option Nat) : Nat → Option Nat := fun i => if i = k then v else f i
theorem upd_same (f : Nat → Option Nat) (k : Nat) (v : Option Nat) : upd f k v k = v := by simp [upd]
theorem upd_other {f : Nat → Option Nat} {k i : Nat} {v : Option Nat} (h : i ≠ k) : upd f k v i = f i := by simp [upd, h]
theorem lk_same {α : Type} (k : Nat) (v : α) (l : List (Nat × α)) : lk ((k, v) :: l) k = some v := by simp [lk]
theorem lk_other {α : Type} {k i : Nat} {v : α} {l : List (Nat × α)} (h : i ≠ k) : lk ((k, v) :: l) i = lk l i := by simp [lk, Ne.symm h]

variable {cx : Cx} {st : St} {m m' : Mp} {a : Act} {w w' : World}

theorem Rel.slot (R : Rel cx st m a w) {t : Nat} {v : AV} {u : Value} (ht : t < cx.nt) (hv : RA cx m w (lk st.lb) v u) :
    Rel cx (st.slot t v) m (a.put (some t) u) w := by
  refine { R with slots := fun t' v' hl => ?_, nt := by simp [Act.put, R.nt], defers := R.defers }
  by_cases h : t' = t
  · subst h
    rw [St.slot, lk_same] at hl
    obtain rfl := Option.some.inj hl
    refine ⟨ht, ?_⟩
    simp only [Act.put, Array.getD_eq_getD_getElem?]
    rw [Array.getElem?_setIfInBounds_self_of_lt (by rw [R.nt]; exact ht)]
    exact hv
  · rw [St.slot, lk_other h] at hl
    obtain ⟨h1, h2⟩ := R.slots t' v' hl
    refine ⟨h1, ?_⟩
    change RA cx m w (lk st.lb) v' _
    simpa [Act.put, Array.getD_eq_getD_getElem?, Array.getElem?_setIfInBounds, Ne.symm h] using h2

/-- The frame of a step that leaves the slots alone. -/
theorem Rel.of_move (R : Rel cx st m a w) {bx : List (Nat × List AC)} {lb : List (Nat × Lab)}
    (he : SameEnv w w') (hm : Move cx m w (lk st.lb) m' w' (lk lb)) (hold : ∀ B, B < cx.w0.heap.size → w'.heap[B]? = w.heap[B]?)
    (boxes : ∀ b cs, lk bx b = some cs → ∃ B c T, m'.box b = some B ∧ w'.heap[B]? = some (.cells c T (0, 0)) ∧ c.size = cs.length ∧
      ∀ j, j < cs.length → ∃ u, c[j]? = some u ∧ RCl cx m' w' (lk lb) (cs.getD j .undef) u)
    (nobox : ∀ b, lk bx b = none → m'.box b = none)
    (owned : ∀ k x, lk lb k = some (.owned x) → x.isSl = true ∧ ∀ B, m'.own k = some B → Row w' (Sof cx m') B x)
    (noown : ∀ k, (∀ x, lk lb k ≠ some (.owned x)) → m'.own k = none)
    (ownb : ∀ k B, m'.own k = some B → cx.w0.heap.size ≤ B ∧ B < w'.heap.size)
    (boxb : ∀ b B, m'.box b = some B → cx.w0.heap.size ≤ B ∧ B < w'.heap.size)
    (injo : ∀ k k' B, m'.own k = some B → m'.own k' = some B → k = k')
    (injb : ∀ b b' B, m'.box b = some B → m'.box b' = some B → b = b')
    (dis : ∀ k b B, m'.own k = some B → m'.box b ≠ some B) : Rel cx ⟨st.sl, bx, lb⟩ m' a w' where
  defers := R.defers
  nt := R.nt
  env := R.env.trans he
  size := Nat.le_trans R.size hm.ext.size
  old := fun B hB => (hold B hB).trans (R.old B hB)
  s0 := R.s0
  slots := fun t v hl => ⟨(R.slots t v hl).1, RA.move hm (R.slots t v hl).2⟩
  sus := fun p hp => RA.move hm (R.sus p hp)
  boxes := boxes
  nobox := nobox
  owned := owned
  noown := noown
  ownb := ownb
  boxb := boxb
  injo := injo
  injb := injb
  dis := dis

/-- a label is owned, or it has no block -/
theorem Rel.own_some (R : Rel cx st m a w) {k B : Nat} (h : m.own k = some B) : ∃ x, lk st.lb k = some (.owned x) ∧ x.isSl = true ∧ Row w (Sof cx m) B x := by
  by_cases hx : ∃ x, lk st.lb k = some (.owned x)
  · obtain ⟨x, hx⟩ := hx
    exact ⟨x, hx, (R.owned k x hx).1, (R.owned k x hx).2 B h⟩
  · have := R.noown k (fun x hl => hx ⟨x, hl⟩)
    rw [h] at this; cases this

theorem Rel.box_some (R : Rel cx st m a w) {b B : Nat} (h : m.box b = some B) : ∃ cs, lk st.bx b = some cs := by
  cases hx : lk st.bx b with
  | some cs => exact ⟨cs, rfl⟩
  | none => have := R.nobox b hx; rw [h] at this; cases this

/-- labels as they are: what they need of the worlds -/
theorem labs_same (hown : ∀ k B, m.own k = some B → m'.own k = some B) (hno : ∀ k, m.own k = none → (∃ x, lk st.lb k = some (.owned x)) → m'.own k = none)
    (hsz : ∀ k B, m.own k = some B → SizeKept w w' B) : ∀ k, LabOk cx m w (lk st.lb) m' w' (lk st.lb) k := by
  intro k
  simp only [LabOk]
  cases hl : lk st.lb k with
  | none => trivial
  | some L =>
    cases L with
    | dead => rfl
    | shared x => exact .inr rfl
    | owned x =>
      refine .inr (.inl ⟨x, rfl, rfl, rfl, ?_, fun B hB => hsz k B hB⟩)
      cases ho : m.own k with
      | none => exact hno k ho ⟨x, hl⟩
      | some B => exact hown k B ho

/-- THE WORLD GROWS: all blocks that were there stay as they were. -/
theorem Rel.grow (R : Rel cx st m a w) (he : SameEnv w w') (hs : w.heap.size ≤ w'.heap.size) (h : ∀ B, B < w.heap.size → w'.heap[B]? = w.heap[B]?) : Rel cx st m a w' := by
  have hm : Move cx m w (lk st.lb) m w' (lk st.lb) := ⟨⟨hs, fun B hB _ => h B hB, fun _ _ h => h⟩, fun _ _ h => h,
    labs_same (fun _ _ h => h) (fun _ h _ => h) (fun k B hB => .of_eq (h B (R.ownb k B hB).2))⟩
  refine R.of_move he hm (fun B hB => h B (Nat.lt_of_lt_of_le hB R.size)) (fun b cs hb => ?_) R.nobox (fun k x hk => ⟨(R.owned k x hk).1, fun B hB => ?_⟩) R.noown
    (fun k B hB => ⟨(R.ownb k B hB).1, Nat.lt_of_lt_of_le (R.ownb k B hB).2 hs⟩) (fun k B hB => ⟨(R.boxb k B hB).1, Nat.lt_of_lt_of_le (R.boxb k B hB).2 hs⟩) R.injo R.injb R.dis
  · obtain ⟨B, c, T, h1, h2, h3, h4⟩ := R.boxes b cs hb
    refine ⟨B, c, T, h1, by rw [h B (R.boxb b B h1).2]; exact h2, h3, fun j hj => ?_⟩
    obtain ⟨u, hu, hr⟩ := h4 j hj
    exact ⟨u, hu, hr.move hm⟩
  · exact ((R.owned k x hk).2 B hB).ext hm.ext (h B (R.ownb k B hB).2)

theorem Rel.drawn (R : Rel cx st m a w) (n : Nat) : Rel cx st m a { w with drawn := n } := R.grow (.refl _) (Nat.le_refl _) (fun _ _ => rfl)

/-- A NEW BOX: a block of cells comes at the end of the heap. -/
theorem Rel.newBox (R : Rel cx st m a w) {b : Nat} (hb : lk st.bx b = none) {cs : List AC} {c : Array Value} {T : TypeId} (hsz : c.size = cs.length)
    (hcs : ∀ j, j < cs.length → ∃ u, c[j]? = some u ∧ RCl cx m w (lk st.lb) (cs.getD j .undef) u) :
    Rel cx ⟨st.sl, (b, cs) :: st.bx, st.lb⟩ ⟨m.own, upd m.box b (some w.heap.size)⟩ a { w with heap := w.heap.push (.cells c T (0, 0)) } := by
  have hnb := R.nobox b hb
  have hsame : ∀ B, B < w.heap.size → (w.heap.push (.cells c T (0, 0)))[B]? = w.heap[B]? := fun B hB => by
    rw [Array.getElem?_push, if_neg (by omega)]
  have hm : Move cx m w (lk st.lb) ⟨m.own, upd m.box b (some w.heap.size)⟩ { w with heap := w.heap.push (.cells c T (0, 0)) } (lk st.lb) := by
    refine ⟨⟨by simp, fun B hB _ => hsame B hB, fun B hB hS => ⟨hS.1, hS.2.1, fun b' hb' => ?_⟩⟩, fun b' B h => ?_, labs_same (fun _ _ h => h) (fun _ h _ => h) (fun k B hB => .of_eq (hsame B (R.ownb k B hB).2))⟩
    · simp only [upd] at hb'
      split at hb'
      · simp at hb'; omega
      · exact hS.2.2 b' hb'
    · have : b' ≠ b := by rintro rfl; rw [hnb] at h; cases h
      simp only [upd_other this]; exact h
  have hbx : ∀ b' B, upd m.box b (some w.heap.size) b' = some B → (b' = b ∧ B = w.heap.size) ∨ (b' ≠ b ∧ m.box b' = some B) := by
    intro b' B h
    simp only [upd] at h
    split at h
    · exact .inl ⟨by assumption, by simpa using h.symm⟩
    · exact .inr ⟨by assumption, h⟩
  refine R.of_move ⟨rfl, rfl, rfl⟩ hm (fun B hB => hsame B (Nat.lt_of_lt_of_le hB R.size)) (fun b' cs' hl => ?_) (fun b' hl => ?_) (fun k x hk => ⟨(R.owned k x hk).1, fun B hB => ?_⟩) R.noown ?_ ?_ R.injo ?_ ?_
  · by_cases h : b' = b
    · subst h
      rw [lk_same] at hl
      obtain rfl := Option.some.inj hl
      refine ⟨w.heap.size, c, T, upd_same _ _ _, by simp, hsz, fun j hj => ?_⟩
      obtain ⟨u, hu, hr⟩ := hcs j hj
      exact ⟨u, hu, hr.move hm⟩
    · rw [lk_other h] at hl
      obtain ⟨B, c', T', h1, h2, h3, h4⟩ := R.boxes b' cs' hl
      refine ⟨B, c', T', by simp only [upd_other h]; exact h1, by rw [hsame B (R.boxb b' B h1).2]; exact h2, h3, fun j hj => ?_⟩
      obtain ⟨u, hu, hr⟩ := h4 j hj
      exact ⟨u, hu, hr.move hm⟩
  · by_cases h : b' = b
    · subst h; rw [lk_same] at hl; cases hl
    · rw [lk_other h] at hl; simp only [upd_other h]; exact R.nobox b' hl
  · exact ((R.owned k x hk).2 B hB).ext hm.ext (hsame B (R.ownb k B hB).2)
  · intro k B hB
    have := R.ownb k B hB
    exact ⟨this.1, by simp; omega⟩
  · intro b' B hB
    rcases hbx b' B hB with ⟨_, rfl⟩ | ⟨_, h⟩
    · exact ⟨R.size, by simp⟩
    · have := R.boxb b' B h
      exact ⟨this.1, by simp; omega⟩
  · intro b1 b2 B h1 h2
    rcases hbx b1 B h1 with ⟨rfl, rfl⟩ | ⟨n1, h1⟩ <;> rcases hbx b2 _ h2 with ⟨e, e2⟩ | ⟨n2, h2⟩
    · exact e.symm
    · have := R.boxb b2 _ h2; omega
    · subst e2; have := R.boxb b1 _ h1; omega
    · exact R.injb _ _ _ h1 h2
  · intro k b' B h1 h2
    rcases hbx b' B h2 with ⟨_, rfl⟩ | ⟨_, h⟩
    · have := R.ownb k _ h1; omega
    · exact R.dis k b' B h1 h

/-- A NEW LABEL for a block beyond those that the state knows. -/
theorem Rel.newLab (R : Rel cx st m a w) {k : Nat} (hk : lk st.lb k = none) {x : D} (hs : w.heap.size ≤ w'.heap.size)
    (hold : ∀ B, B < w.heap.size → w'.heap[B]? = w.heap[B]?) {B : Nat} (hB : w.heap.size ≤ B) (hB' : B < w'.heap.size) (hx : x.isSl = true) (he : SameEnv w w')
    (hrow : Row w' (fun B' => Sof cx m B' ∧ B' ≠ B) B x) :
    Rel cx ⟨st.sl, st.bx, (k, .owned x) :: st.lb⟩ ⟨upd m.own k (some B), m.box⟩ a w' := by
  have hno : m.own k = none := R.noown k (fun x => by rw [hk]; simp)
  have hsub : ∀ B', Sof cx m B' → B' ≠ B → Sof cx ⟨upd m.own k (some B), m.box⟩ B' := fun B' h hne => ⟨h.1, fun k' hk' => by
    simp only [upd] at hk'
    split at hk'
    · simp at hk'; exact hne hk'.symm
    · exact h.2.1 k' hk', h.2.2⟩
  have hne : ∀ k' B', m.own k' = some B' → k' ≠ k := fun k' B' h e => by subst e; rw [hno] at h; cases h
  have hlk : ∀ k', k' ≠ k → lk ((k, Lab.owned x) :: st.lb) k' = lk st.lb k' := fun k' h => lk_other h
  have hm : Move cx m w (lk st.lb) ⟨upd m.own k (some B), m.box⟩ w' (lk ((k, .owned x) :: st.lb)) := by
    refine ⟨⟨hs, fun B hB _ => hold B hB, fun B' hB' hS => hsub B' hS (by omega)⟩, fun _ _ h => h, fun k' => ?_⟩
    by_cases e : k' = k
    · subst e; simp [LabOk, hk]
    · have := labs_same (cx := cx) (st := st) (m := m) (m' := ⟨upd m.own k (some B), m.box⟩) (w := w) (w' := w') (fun k B' h => by simp only [upd_other (hne _ _ h)]; exact h)
        (fun k' h ⟨y, hy⟩ => by
          have : k' ≠ k := by rintro rfl; rw [hk] at hy; cases hy
          simp only [upd_other this]; exact h) (fun k B hB => .of_eq (hold B (R.ownb k B hB).2)) k'
      simpa only [LabOk, hlk k' e] using this
  have hown : ∀ k' B', upd m.own k (some B) k' = some B' → (k' = k ∧ B' = B) ∨ (k' ≠ k ∧ m.own k' = some B') := by
    intro k' B' h
    simp only [upd] at h
    split at h
    · exact .inl ⟨by assumption, by simpa using h.symm⟩
    · exact .inr ⟨by assumption, h⟩
  refine R.of_move he hm (fun B hB => hold B (Nat.lt_of_lt_of_le hB R.size)) (fun b cs hb => ?_) R.nobox (fun k' y hy => ?_) (fun k' hk' => ?_) ?_
    (fun b B hb => ⟨(R.boxb b B hb).1, Nat.lt_of_lt_of_le (R.boxb b B hb).2 hs⟩) ?_ R.injb ?_
  · obtain ⟨B, c, T, h1, h2, h3, h4⟩ := R.boxes b cs hb
    refine ⟨B, c, T, h1, by rw [hold B (R.boxb b B h1).2]; exact h2, h3, fun j hj => ?_⟩
    obtain ⟨u, hu, hr⟩ := h4 j hj
    exact ⟨u, hu, hr.move hm⟩
  · by_cases e : k' = k
    · subst e
      rw [lk_same] at hy
      obtain ⟨⟩ := Option.some.inj hy
      refine ⟨hx, fun B' h => ?_⟩
      simp only [upd_same] at h
      obtain rfl := Option.some.inj h
      exact Row.ext ⟨Nat.le_refl _, fun _ _ _ => rfl, fun B' _ h => hsub B' h.1 h.2⟩ rfl hrow
    · rw [lk_other e] at hy
      refine ⟨(R.owned k' y hy).1, fun B' h => ?_⟩
      simp only [upd_other e] at h
      exact ((R.owned k' y hy).2 B' h).ext hm.ext (hold B' (R.ownb k' B' h).2)
  · have e : k' ≠ k := by rintro rfl; exact hk' x (lk_same _ _ _)
    simp only [upd_other e]
    exact R.noown k' (fun y hy => hk' y (by rw [lk_other e]; exact hy))
  · intro k' B' h
    rcases hown k' B' h with ⟨_, rfl⟩ | ⟨_, h⟩
    · exact ⟨Nat.le_trans R.size hB, hB'⟩
    · exact ⟨(R.ownb k' B' h).1, Nat.lt_of_lt_of_le (R.ownb k' B' h).2 hs⟩
  · intro k1 k2 B' h1 h2
    rcases hown k1 B' h1 with ⟨rfl, rfl⟩ | ⟨n1, g1⟩ <;> rcases hown k2 _ h2 with ⟨e, e2⟩ | ⟨n2, h2⟩
    · exact e.symm
    · have := R.ownb k2 _ h2; omega
    · subst e2; have := R.ownb k1 _ g1; omega
    · exact R.injo _ _ _ g1 h2
  · intro k' b B' h1 h2
    rcases hown k' B' h1 with ⟨_, rfl⟩ | ⟨_, h⟩
    · have := R.boxb b _ h2; omega
    · exact R.dis k' b B' h h2

/-- A NEW LABEL for a slice that is nil. -/
theorem Rel.newNil (R : Rel cx st m a w) {k : Nat} (hk : lk st.lb k = none) {x : D} (hx : x.isSl = true) :
    Rel cx ⟨st.sl, st.bx, (k, .owned x) :: st.lb⟩ m a w := by
  have hno : m.own k = none := R.noown k (fun x => by rw [hk]; simp)
  have hm : Move cx m w (lk st.lb) m w (lk ((k, .owned x) :: st.lb)) := by
    refine ⟨⟨Nat.le_refl _, fun _ _ _ => rfl, fun _ _ h => h⟩, fun _ _ h => h, fun k' => ?_⟩
    by_cases e : k' = k
    · subst e; simp [LabOk, hk]
    · have := labs_same (cx := cx) (st := st) (m := m) (m' := m) (w := w) (w' := w) (fun _ _ h => h) (fun _ h _ => h) (fun k B _ => .of_eq rfl) k'
      simpa only [LabOk, lk_other e] using this
  refine R.of_move (.refl _) hm (fun _ _ => rfl) (fun b cs hb => ?_) R.nobox (fun k' y hy => ?_) (fun k' hk' => ?_) R.ownb R.boxb R.injo R.injb R.dis
  · obtain ⟨B, c, T, h1, h2, h3, h4⟩ := R.boxes b cs hb
    refine ⟨B, c, T, h1, h2, h3, fun j hj => ?_⟩
    obtain ⟨u, hu, hr⟩ := h4 j hj
    exact ⟨u, hu, hr.move hm⟩
  · by_cases e : k' = k
    · subst e
      rw [lk_same] at hy
      obtain ⟨⟩ := Option.some.inj hy
      exact ⟨hx, fun B h => by rw [hno] at h; cases h⟩
    · rw [lk_other e] at hy; exact R.owned k' y hy
  · have e : k' ≠ k := by rintro rfl; exact hk' x (lk_same _ _ _)
    exact R.noown k' (fun y hy => hk' y (by rw [lk_other e]; exact hy))

/-- A LABEL IS SHARED. -/
theorem Rel.share (R : Rel cx st m a w) {k : Nat} {x : D} (hk : lk st.lb k = some (.owned x)) :
    Rel cx ⟨st.sl, st.bx, (k, .shared x) :: st.lb⟩ ⟨upd m.own k none, m.box⟩ a w := by
  have hle : ∀ k' B, upd m.own k none k' = some B → k' ≠ k ∧ m.own k' = some B := by
    intro k' B h
    simp only [upd] at h
    split at h
    · cases h
    · exact ⟨by assumption, h⟩
  have hsub : ∀ B', Sof cx m B' → Sof cx ⟨upd m.own k none, m.box⟩ B' := fun B' h => ⟨h.1, fun k' hk' => h.2.1 k' (hle _ _ hk').2, h.2.2⟩
  have hm : Move cx m w (lk st.lb) ⟨upd m.own k none, m.box⟩ w (lk ((k, .shared x) :: st.lb)) := by
    refine ⟨⟨Nat.le_refl _, fun _ _ _ => rfl, fun B' _ h => hsub B' h⟩, fun _ _ h => h, fun k' => ?_⟩
    by_cases e : k' = k
    · subst e
      simp only [LabOk, hk, lk_same]
      refine .inr (.inr ⟨(by first | rfl | trivial), (R.owned _ x hk).1, fun B hB => ⟨((R.owned _ x hk).2 B hB).ext ⟨Nat.le_refl _, fun _ _ _ => rfl, fun B' _ h => hsub B' h⟩ rfl, ?_, (R.ownb _ B hB).2⟩⟩)
      exact ⟨.inr (R.ownb _ B hB).1, fun k' h => (hle k' B h).1 (R.injo _ _ _ (hle k' B h).2 hB), fun b => R.dis _ b B hB⟩
    · have := labs_same (cx := cx) (st := st) (m := m) (m' := m) (w := w) (w' := w) (fun _ _ h => h) (fun _ h _ => h) (fun k B _ => .of_eq rfl) k'
      simp only [LabOk, lk_other e, upd_other e] at this ⊢
      cases hl : lk st.lb k' with
      | none => trivial
      | some L =>
        simp only [hl] at this ⊢
        cases L with
        | owned y =>
          refine .inr (.inl ⟨y, (by first | rfl | trivial), (by first | rfl | trivial), (by first | rfl | trivial), (by first | rfl | trivial), fun B _ => .of_eq rfl⟩)
        | shared y => simp
        | dead => rfl
  refine R.of_move (.refl _) hm (fun _ _ => rfl) (fun b cs hb => ?_) R.nobox (fun k' y hy => ?_) (fun k' hk' => ?_) (fun k' B h => R.ownb k' B (hle _ _ h).2) R.boxb
    (fun k1 k2 B h1 h2 => R.injo _ _ B (hle _ _ h1).2 (hle _ _ h2).2) R.injb (fun k' b B h => R.dis k' b B (hle _ _ h).2)
  · obtain ⟨B, c, T, h1, h2, h3, h4⟩ := R.boxes b cs hb
    refine ⟨B, c, T, h1, h2, h3, fun j hj => ?_⟩
    obtain ⟨u, hu, hr⟩ := h4 j hj
    exact ⟨u, hu, hr.move hm⟩
  · have e : k' ≠ k := by rintro rfl; rw [lk_same] at hy; simp at hy
    rw [lk_other e] at hy
    refine ⟨(R.owned k' y hy).1, fun B h => ?_⟩
    exact ((R.owned k' y hy).2 B (hle _ _ h).2).ext hm.ext rfl
  · by_cases e : k' = k
    · subst e; simp [upd_same]
    · simp only [upd_other e]
      exact R.noown k' (fun y hy => hk' y (by rw [lk_other e]; exact hy))

/-- THE BLOCK OF AN OWNED LABEL IS TURNED, in content alone: its label dies, or takes the new content; a new label may take its place. -/
theorem Rel.turnOwn (R : Rel cx st m a w) {k B : Nat} (hB : m.own k = some B) {x x' : D} (hk : lk st.lb k = some (.owned x)) (hx' : x'.isSl = true)
    (hl : x'.len = x.len) (hst : x'.stride = x.stride)
    (he : SameEnv w w') (hsz : w'.heap.size = w.heap.size) (hold : ∀ B', B' ≠ B → w'.heap[B']? = w.heap[B']?) (hkept : SizeKept w w' B)
    (hrow : Row w' (Sof cx m) B x') : Rel cx ⟨st.sl, st.bx, (k, .owned x') :: st.lb⟩ m a w' := by
  have hS : ∀ B', Sof cx m B' → B' ≠ B := fun B' h e => by subst e; exact h.2.1 k hB
  have hne : ∀ k' B', m.own k' = some B' → k' ≠ k → B' ≠ B := fun k' B' h e e2 => by subst e2; exact e (R.injo _ _ _ h hB)
  have hm : Move cx m w (lk st.lb) m w' (lk ((k, .owned x') :: st.lb)) := by
    refine ⟨⟨by omega, fun B' _ h => hold B' (hS B' h), fun _ _ h => h⟩, fun _ _ h => h, fun k' => ?_⟩
    by_cases e : k' = k
    · subst e
      simp only [LabOk, hk, lk_same]
      exact .inr (.inl ⟨x', (by first | rfl | trivial), hl, hst, (by first | rfl | trivial), fun B' h => by rw [hB] at h; obtain rfl := Option.some.inj h; exact hkept⟩)
    · have := labs_same (cx := cx) (st := st) (m := m) (m' := m) (w := w) (w' := w) (fun _ _ h => h) (fun _ h _ => h) (fun k B _ => .of_eq rfl) k'
      simp only [LabOk, lk_other e] at this ⊢
      cases hl : lk st.lb k' with
      | none => trivial
      | some L =>
        simp only [hl] at this ⊢
        cases L with
        | owned y => exact .inr (.inl ⟨y, (by first | rfl | trivial), (by first | rfl | trivial), (by first | rfl | trivial), (by first | rfl | trivial), fun B' h => .of_eq (hold B' (hne k' B' h e))⟩)
        | shared y => simp
        | dead => rfl
  have hb0 : cx.w0.heap.size ≤ B := (R.ownb _ B hB).1
  refine R.of_move he hm (fun B' h => hold B' (by omega)) (fun b cs hb => ?_) R.nobox (fun k' y hy => ?_) (fun k' hk' => ?_) (fun k' B' h => by rw [hsz]; exact R.ownb k' B' h) (fun b B' h => by rw [hsz]; exact R.boxb b B' h) R.injo R.injb R.dis
  · obtain ⟨B', c, T, h1, h2, h3, h4⟩ := R.boxes b cs hb
    refine ⟨B', c, T, h1, by rw [hold B' (fun e => R.dis k b B' (e ▸ hB) h1)]; exact h2, h3, fun j hj => ?_⟩
    obtain ⟨u, hu, hr⟩ := h4 j hj
    exact ⟨u, hu, hr.move hm⟩
  · by_cases e : k' = k
    · subst e
      rw [lk_same] at hy
      obtain ⟨⟩ := Option.some.inj hy
      exact ⟨hx', fun B' h => by rw [hB] at h; obtain rfl := Option.some.inj h; exact hrow⟩
    · rw [lk_other e] at hy
      exact ⟨(R.owned k' y hy).1, fun B' h => ((R.owned k' y hy).2 B' h).ext hm.ext (hold B' (hne _ _ h e))⟩
  · have e : k' ≠ k := by rintro rfl; exact hk' x' (lk_same _ _ _)
    exact R.noown k' (fun y hy => hk' y (by rw [lk_other e]; exact hy))

/-- A CELL, or some, OF A BOX ARE STORED. -/
theorem Rel.turnBox (R : Rel cx st m a w) {b B : Nat} (hB : m.box b = some B) {cs' : List AC} {c' : Array Value} {T : TypeId}
    (he : SameEnv w w') (hsz : w'.heap.size = w.heap.size) (hold : ∀ B', B' ≠ B → w'.heap[B']? = w.heap[B']?) (hc' : w'.heap[B]? = some (.cells c' T (0, 0)))
    (hlen : c'.size = cs'.length) (hcs : ∀ j, j < cs'.length → ∃ u, c'[j]? = some u ∧ RCl cx m w (lk st.lb) (cs'.getD j .undef) u) :
    Rel cx ⟨st.sl, (b, cs') :: st.bx, st.lb⟩ m a w' := by
  have hS : ∀ B', Sof cx m B' → B' ≠ B := fun B' h e => by subst e; exact h.2.2 b hB
  have hno : ∀ k B', m.own k = some B' → B' ≠ B := fun k B' h e => by subst e; exact R.dis k b _ h hB
  have hm : Move cx m w (lk st.lb) m w' (lk st.lb) :=
    ⟨⟨by omega, fun B' _ h => hold B' (hS B' h), fun _ _ h => h⟩, fun _ _ h => h, labs_same (fun _ _ h => h) (fun _ h _ => h) (fun k B' h => .of_eq (hold B' (hno k B' h)))⟩
  have hb0 : cx.w0.heap.size ≤ B := (R.boxb _ B hB).1
  refine R.of_move he hm (fun B' h => hold B' (by omega)) (fun b' cs hb => ?_) (fun b' hb => ?_) (fun k y hy => ⟨(R.owned k y hy).1, fun B' h => ((R.owned k y hy).2 B' h).ext hm.ext (hold B' (hno k B' h))⟩) R.noown
    (fun k' B' h => by rw [hsz]; exact R.ownb k' B' h) (fun b B' h => by rw [hsz]; exact R.boxb b B' h) R.injo R.injb R.dis
  · by_cases e : b' = b
    · subst e
      rw [lk_same] at hb
      obtain rfl := Option.some.inj hb
      refine ⟨B, c', T, hB, hc', hlen, fun j hj => ?_⟩
      obtain ⟨u, hu, hr⟩ := hcs j hj
      exact ⟨u, hu, hr.move hm⟩
    · rw [lk_other e] at hb
      obtain ⟨B', c, T, h1, h2, h3, h4⟩ := R.boxes b' cs hb
      refine ⟨B', c, T, h1, by rw [hold B' (fun e2 => e (R.injb _ _ _ h1 (e2 ▸ hB)))]; exact h2, h3, fun j hj => ?_⟩
      obtain ⟨u, hu, hr⟩ := h4 j hj
      exact ⟨u, hu, hr.move hm⟩
  · by_cases e : b' = b
    · subst e; rw [lk_same] at hb; cases hb
    · rw [lk_other e] at hb; exact R.nobox b' hb

/-- AN APPEND IN PLACE: the block passes from one label to a new one. -/
theorem Rel.passOwn (R : Rel cx st m a w) {k k' B : Nat} (hB : m.own k = some B) {x x' : D} (hk : lk st.lb k = some (.owned x)) (hk' : lk st.lb k' = none) (hx' : x'.isSl = true)
    (he : SameEnv w w') (hsz : w'.heap.size = w.heap.size) (hold : ∀ B', B' ≠ B → w'.heap[B']? = w.heap[B']?)
    (hrow : Row w' (Sof cx m) B x') : Rel cx ⟨st.sl, st.bx, (k', .owned x') :: (k, .dead) :: st.lb⟩ ⟨upd (upd m.own k none) k' (some B), m.box⟩ a w' := by
  have hkk : k ≠ k' := by rintro rfl; rw [hk] at hk'; cases hk'
  have hS : ∀ B', Sof cx m B' → B' ≠ B := fun B' h e => by subst e; exact h.2.1 k hB
  have hown : ∀ i B', upd (upd m.own k none) k' (some B) i = some B' → (i = k' ∧ B' = B) ∨ (i ≠ k' ∧ i ≠ k ∧ m.own i = some B') := by
    intro i B' h
    simp only [upd] at h
    split at h
    · exact .inl ⟨by assumption, by simpa using h.symm⟩
    · split at h
      · cases h
      · exact .inr ⟨by assumption, by assumption, h⟩
  have hback : ∀ i B', m.own i = some B' → ∃ j, upd (upd m.own k none) k' (some B) j = some B' := by
    intro i B' h
    by_cases e : i = k
    · subst e; rw [hB] at h; obtain rfl := Option.some.inj h; exact ⟨k', upd_same _ _ _⟩
    · have e2 : i ≠ k' := by
        rintro rfl
        have := R.noown i (fun y => by rw [hk']; simp)
        rw [h] at this; cases this
      exact ⟨i, by rw [upd_other e2, upd_other e]; exact h⟩
  have hSS : ∀ B', Sof cx m B' → Sof cx ⟨upd (upd m.own k none) k' (some B), m.box⟩ B' := fun B' h => ⟨h.1, fun i hi => by
    rcases hown i B' hi with ⟨_, rfl⟩ | ⟨_, _, hi⟩
    · exact hS _ h rfl
    · exact h.2.1 i hi, h.2.2⟩
  have hne : ∀ i B', m.own i = some B' → i ≠ k → B' ≠ B := fun i B' h e e2 => by subst e2; exact e (R.injo _ _ _ h hB)
  have hm : Move cx m w (lk st.lb) ⟨upd (upd m.own k none) k' (some B), m.box⟩ w' (lk ((k', .owned x') :: (k, .dead) :: st.lb)) := by
    refine ⟨⟨by omega, fun B' _ h => hold B' (hS B' h), fun B' _ h => hSS B' h⟩, fun _ _ h => h, fun i => ?_⟩
    by_cases e : i = k'
    · subst e; simp [LabOk, hk']
    · by_cases e2 : i = k
      · subst e2; simp only [LabOk, hk, lk_other e, lk_same]; exact .inl trivial
      · simp only [LabOk, lk_other e, lk_other e2]
        cases hl : lk st.lb i with
        | none => trivial
        | some L =>
          cases L with
          | owned y => exact .inr (.inl ⟨y, (by first | rfl | trivial), (by first | rfl | trivial), (by first | rfl | trivial), by simp only [upd_other e, upd_other e2], fun B' h => .of_eq (hold B' (hne i B' h e2))⟩)
          | shared y => simp
          | dead => rfl
  have hb0 : cx.w0.heap.size ≤ B := (R.ownb _ B hB).1
  refine R.of_move he hm (fun B' h => hold B' (by omega)) (fun b cs hb => ?_) R.nobox (fun i y hy => ?_) (fun i hi => ?_) ?_ (fun b B' h => by rw [hsz]; exact R.boxb b B' h) ?_ R.injb ?_
  · obtain ⟨B', c, T, h1, h2, h3, h4⟩ := R.boxes b cs hb
    refine ⟨B', c, T, h1, by rw [hold B' (fun e => R.dis k b B' (e ▸ hB) h1)]; exact h2, h3, fun j hj => ?_⟩
    obtain ⟨u, hu, hr⟩ := h4 j hj
    exact ⟨u, hu, hr.move hm⟩
  · by_cases e : i = k'
    · subst e
      rw [lk_same] at hy
      obtain ⟨⟩ := Option.some.inj hy
      refine ⟨hx', fun B' h => ?_⟩
      simp only [upd_same] at h
      obtain rfl := Option.some.inj h
      exact Row.ext ⟨Nat.le_refl _, fun _ _ _ => rfl, fun B' _ h => hSS B' h⟩ rfl hrow
    · rw [lk_other e] at hy
      by_cases e2 : i = k
      · subst e2; rw [lk_same] at hy; simp at hy
      · rw [lk_other e2] at hy
        refine ⟨(R.owned i y hy).1, fun B' h => ?_⟩
        simp only [upd_other e, upd_other e2] at h
        exact ((R.owned i y hy).2 B' h).ext hm.ext (hold B' (hne _ _ h e2))
  · have e : i ≠ k' := by rintro rfl; exact hi x' (lk_same _ _ _)
    by_cases e2 : i = k
    · subst e2; simp only [upd_other e, upd_same]
    · simp only [upd_other e, upd_other e2]
      exact R.noown i (fun y hy => hi y (by rw [lk_other e, lk_other e2]; exact hy))
  · intro i B' h
    rcases hown i B' h with ⟨_, rfl⟩ | ⟨_, _, h⟩
    · rw [hsz]; exact R.ownb k _ hB
    · rw [hsz]; exact R.ownb i B' h
  · intro i j B' h1 h2
    rcases hown i B' h1 with ⟨rfl, rfl⟩ | ⟨n1, n2, g1⟩ <;> rcases hown j _ h2 with ⟨e, e2⟩ | ⟨n3, n4, h2⟩
    · exact e.symm
    · exact absurd (R.injo _ _ _ h2 hB) n4
    · subst e2; exact absurd (R.injo _ _ _ g1 hB) n2
    · exact R.injo _ _ _ g1 h2
  · intro i b B' h1 h2
    rcases hown i B' h1 with ⟨_, rfl⟩ | ⟨_, _, h⟩
    · exact R.dis k b _ hB h2
    · exact R.dis i b B' h h2

/-- A LABEL DIES. -/
theorem Rel.kill (R : Rel cx st m a w) {k : Nat} {x : D} (hk : lk st.lb k = some (.owned x)) :
    Rel cx ⟨st.sl, st.bx, (k, .dead) :: st.lb⟩ ⟨upd m.own k none, m.box⟩ a w := by
  have R2 := R.share hk
  have hm : Move cx ⟨upd m.own k none, m.box⟩ w (lk ((k, .shared x) :: st.lb)) ⟨upd m.own k none, m.box⟩ w (lk ((k, .dead) :: st.lb)) := by
    refine ⟨⟨Nat.le_refl _, fun _ _ _ => rfl, fun _ _ h => h⟩, fun _ _ h => h, fun k' => ?_⟩
    by_cases e : k' = k
    · subst e; simp [LabOk, lk_same]
    · simp only [LabOk, lk_other e]
      cases hl : lk st.lb k' with
      | none => trivial
      | some L =>
        cases L with
        | owned y => exact .inr (.inl ⟨y, (by first | rfl | trivial), (by first | rfl | trivial), (by first | rfl | trivial), (by first | rfl | trivial), fun B _ => .of_eq rfl⟩)
        | shared y => simp
        | dead => rfl
  refine R2.of_move (bx := st.bx) (lb := (k, .dead) :: st.lb) (.refl _) hm (fun _ _ => rfl) (fun b cs hb => ?_) R2.nobox (fun k' y hy => ?_) (fun k' hk' => ?_) R2.ownb R2.boxb R2.injo R2.injb R2.dis
  · obtain ⟨B, c, T, h1, h2, h3, h4⟩ := R2.boxes b cs hb
    refine ⟨B, c, T, h1, h2, h3, fun j hj => ?_⟩
    obtain ⟨u, hu, hr⟩ := h4 j hj
    exact ⟨u, hu, hr.move hm⟩
  · have e : k' ≠ k := by rintro rfl; rw [lk_same] at hy; simp at hy
    rw [lk_other e] at hy
    exact R2.owned k' y (by rw [lk_other e]; exact hy)
  · refine R2.noown k' (fun y hy => ?_)
    by_cases e : k' = k
    · subst e; rw [lk_same] at hy; simp at hy
    · rw [lk_other e] at hy; exact hk' y (by rw [lk_other e]; exact hy)

end Go.Abs

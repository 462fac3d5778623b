/-
  Regions that draw their order: whatever order the edges allow comes to the same end, where no two operations that no edge orders meet at a component that one of them writes.
-/
import Derived.Test.YtcbiiijnaeibhaaAbsCtl
set_option linter.unusedVariables false
set_option linter.unusedSimpArgs false
namespace Go.Abs

inductive CV where
  | slot (v : Option AV) | box (v : Option (List AC)) | lab (v : Option Lab)
def St.get (st : St) : Comp → CV
  | .slot t => .slot (lk st.sl t)
  | .box b => .box (lk st.bx b)
  | .lab k => .lab (lk st.lb k)

theorem run_agree {α : Type} (r : Rd α) (s s' : St) (h : ∀ c ∈ r.log s, s'.get c = s.get c) : r.run s' = r.run s := by
  induction r with
  | ret a => rfl
  | slot t k ih =>
    have h0 : lk s'.sl t = lk s.sl t := by have := h (.slot t) (by simp [Rd.log]); simpa [St.get] using this
    simp only [Rd.run, h0]
    exact ih _ (fun c hc => h c (by simp [Rd.log, hc]))
  | box b k ih =>
    have h0 : lk s'.bx b = lk s.bx b := by have := h (.box b) (by simp [Rd.log]); simpa [St.get] using this
    simp only [Rd.run, h0]
    exact ih _ (fun c hc => h c (by simp [Rd.log, hc]))
  | lab l k ih =>
    have h0 : lk s'.lb l = lk s.lb l := by have := h (.lab l) (by simp [Rd.log]); simpa [St.get] using this
    simp only [Rd.run, h0]
    exact ih _ (fun c hc => h c (by simp [Rd.log, hc]))

def Wr.comp : Wr → Comp | .box b _ => .box b | .lab k _ => .lab k
def writes (dst : Option Nat) (o : Out) : List Comp := (match dst with | some t => [.slot t] | none => []) ++ o.wr.map Wr.comp

theorem putAll_get (ws : List Wr) : ∀ (s s' : St) (c : Comp), (c ∉ ws.map Wr.comp → (putAll s ws).get c = s.get c) ∧ (c ∈ ws.map Wr.comp → (putAll s ws).get c = (putAll s' ws).get c) := by
  induction ws with
  | nil => intro s s' c; exact ⟨fun _ => rfl, fun h => by simp at h⟩
  | cons x r ih =>
    intro s s' c
    refine ⟨fun h => ?_, fun h => ?_⟩
    · simp only [List.map_cons, List.mem_cons, not_or] at h
      simp only [putAll]
      rw [(ih _ s' c).1 h.2]
      cases x with
      | box b l => cases c with
        | box b' => simp only [Wr.put, St.get]; rw [lk_other (by rintro rfl; exact h.1 rfl)]
        | _ => rfl
      | lab k l => cases c with
        | lab k' => simp only [Wr.put, St.get]; rw [lk_other (by rintro rfl; exact h.1 rfl)]
        | _ => rfl
    · simp only [putAll]
      by_cases hr : c ∈ r.map Wr.comp
      · exact (ih _ _ c).2 hr
      · rw [(ih _ s c).1 hr, (ih _ s c).1 hr]
        simp only [List.map_cons, List.mem_cons] at h
        obtain rfl := h.resolve_right hr
        cases x <;> simp [Wr.put, Wr.comp, St.get, lk_same]

theorem done_get (dst : Option Nat) (o : Out) (s s' : St) (c : Comp) : (c ∉ writes dst o → (s.done dst o).get c = s.get c) ∧ (c ∈ writes dst o → (s.done dst o).get c = (s'.done dst o).get c) := by
  cases dst with
  | none => simpa only [writes, List.nil_append, St.done] using putAll_get o.wr s s' c
  | some t =>
    have hp := putAll_get o.wr s s' c
    have hsl : ∀ st : St, ((putAll st o.wr).slot t o.dst).get (.slot t) = .slot (some o.dst) := fun st => by simp [St.slot, St.get, lk_same]
    have hoth : ∀ st : St, c ≠ .slot t → ((putAll st o.wr).slot t o.dst).get c = (putAll st o.wr).get c := fun st hc => by
      cases c with
      | slot t' => simp only [St.slot, St.get]; rw [lk_other (by rintro rfl; exact hc rfl)]
      | _ => rfl
    simp only [writes, List.singleton_append, List.mem_cons, not_or, St.done]
    refine ⟨fun h => by rw [hoth s h.1, hp.1 h.2], fun h => ?_⟩
    by_cases hc : c = .slot t
    · subst hc; rw [hsl, hsl]
    · rw [hoth s hc, hoth s' hc]; exact hp.2 (h.resolve_left hc)

section
variable (ty : Tys) (tb : Fns) (nt : Nat) (ops : List Oper) (st : St)

/-- the states of the run in the text's order -/
def refSt : Nat → St
  | 0 => st
  | i + 1 => match ops[i]? with
    | some o => (stepIdx ty tb nt (ops.map (·.dst)) o (refSt i)).2
    | none => refSt i
def readsAt (i : Nat) : List Comp := match ops[i]? with
  | some o => (evGuarded ty tb (ops.map (·.dst)) o).log (refSt ty tb nt ops st i)
  | none => []
def writesAt (i : Nat) : List Comp := match ops[i]? with
  | some o => writes o.dst ((evGuarded ty tb (ops.map (·.dst)) o).run (refSt ty tb nt ops st i))
  | none => []

/-- components as the last writer among some operations left them -/
def Last (p : Nat → Prop) (s : St) : Prop := ∀ c,
  (∃ j, p j ∧ c ∈ writesAt ty tb nt ops st j ∧ (∀ j', p j' → c ∈ writesAt ty tb nt ops st j' → j' ≤ j) ∧ s.get c = (refSt ty tb nt ops st (j + 1)).get c) ∨
  ((∀ j, p j → c ∉ writesAt ty tb nt ops st j) ∧ s.get c = st.get c)

variable {ty tb nt ops st}

theorem Last.agree {p q : Nat → Prop} {s s' : St} (h : Last ty tb nt ops st p s) (h' : Last ty tb nt ops st q s') {c : Comp} (hc : ∀ j, c ∈ writesAt ty tb nt ops st j → (p j ↔ q j)) : s.get c = s'.get c := by
  rcases h c with ⟨j, h1, h2, h3, h4⟩ | ⟨h1, h2⟩ <;> rcases h' c with ⟨k, g1, g2, g3, g4⟩ | ⟨g1, g2⟩
  · have e1 := g3 j ((hc j h2).1 h1) h2
    have e2 := h3 k ((hc k g2).2 g1) g2
    obtain rfl : j = k := by omega
    rw [h4, g4]
  · exact absurd h2 (g1 j ((hc j h2).1 h1))
  · exact absurd g2 (h1 k ((hc k g2).2 g1))
  · rw [h2, g2]

theorem refSt_succ_none {i : Nat} (h : ops[i]? = none) : refSt ty tb nt ops st (i + 1) = refSt ty tb nt ops st i := by simp [refSt, h]

theorem last_ref : ∀ i, Last ty tb nt ops st (· < i) (refSt ty tb nt ops st i)
  | 0 => fun c => .inr ⟨fun j h => absurd h (by omega), rfl⟩
  | i + 1 => fun c => by
    cases ho : ops[i]? with
    | none =>
      have hw : writesAt ty tb nt ops st i = [] := by simp [writesAt, ho]
      rcases last_ref i c with ⟨j, h1, h2, h3, h4⟩ | ⟨h1, h2⟩
      · refine .inl ⟨j, by omega, h2, fun j' hj' hw' => ?_, by rw [refSt_succ_none ho]; exact h4⟩
        by_cases e : j' = i
        · subst e; rw [hw] at hw'; simp at hw'
        · exact h3 j' (by omega) hw'
      · refine .inr ⟨fun j hj hw' => ?_, by rw [refSt_succ_none ho]; exact h2⟩
        by_cases e : j = i
        · subst e; rw [hw] at hw'; simp at hw'
        · exact h1 j (by omega) hw'
    | some o =>
      have hs : refSt ty tb nt ops st (i + 1) = (refSt ty tb nt ops st i).done o.dst ((evGuarded ty tb (ops.map (·.dst)) o).run (refSt ty tb nt ops st i)) := by simp [refSt, ho, stepIdx]
      by_cases hc : c ∈ writesAt ty tb nt ops st i
      · exact .inl ⟨i, by omega, hc, fun j' hj' _ => by omega, rfl⟩
      · have hsame : (refSt ty tb nt ops st (i + 1)).get c = (refSt ty tb nt ops st i).get c := by
          rw [hs]; exact (done_get _ _ _ (refSt ty tb nt ops st i) c).1 (by simpa [writesAt, ho] using hc)
        rcases last_ref i c with ⟨j, h1, h2, h3, h4⟩ | ⟨h1, h2⟩
        · refine .inl ⟨j, by omega, h2, fun j' hj' hw' => ?_, by rw [hsame]; exact h4⟩
          by_cases e : j' = i
          · subst e; exact absurd hw' hc
          · exact h3 j' (by omega) hw'
        · refine .inr ⟨fun j hj hw' => ?_, by rw [hsame]; exact h2⟩
          by_cases e : j = i
          · subst e; exact hc hw'
          · exact h1 j (by omega) hw'

/-- the operations that edges set before one -/
inductive Pre (ops : List Oper) : Nat → Nat → Prop
  | edge {i j : Nat} {o : Oper} {e : Edge} (ho : ops[j]? = some o) (he : e ∈ o.after) (hb : Region.binds .any e = true) (hi : e.on = i) : Pre ops i j
  | step {i j k : Nat} (h1 : Pre ops i j) (h2 : Pre ops j k) : Pre ops i k

/-- what must hold of any two operations -/
def Free (ty : Tys) (tb : Fns) (nt : Nat) (ops : List Oper) (st : St) : Prop := ∀ i j c, i < j →
  (c ∈ writesAt ty tb nt ops st i ∧ (c ∈ readsAt ty tb nt ops st j ∨ c ∈ writesAt ty tb nt ops st j)) ∨ (c ∈ readsAt ty tb nt ops st i ∧ c ∈ writesAt ty tb nt ops st j) → Pre ops i j

/-- an order that the edges allow, going on from some operations -/
inductive Ord (ops : List Oper) : List Nat → List Nat → Prop
  | nil (p) : Ord ops p []
  | cons {p q : List Nat} {i : Nat} {o : Oper} (ho : ops[i]? = some o) (hi : i ∉ p) (he : ∀ e ∈ o.after, Region.binds .any e = true → e.on ∈ p) (h : Ord ops (p ++ [i]) q) : Ord ops p (i :: q)

theorem ord_run (hfree : Free ty tb nt ops st) (hobl : ∀ i o, ops[i]? = some o → (stepIdx ty tb nt (ops.map (·.dst)) o (refSt ty tb nt ops st i)).1) {p q : List Nat} (h : Ord ops p q) :
    ∀ (s : St), (∀ i j, j ∈ p → Pre ops i j → i ∈ p) → Last ty tb nt ops st (· ∈ p) s → (evIdx ty tb nt ops q s).1 ∧ Last ty tb nt ops st (· ∈ p ++ q) (evIdx ty tb nt ops q s).2 := by
  induction h with
  | nil p => intro s _ hl; exact ⟨trivial, by simpa [evIdx] using hl⟩
  | @cons p q i o ho hi he h ih =>
    intro s hcl hl
    -- the closure goes on
    have hpre : ∀ k, Pre ops k i → k ∈ p := by
      intro k hk
      have : ∀ {k i'}, Pre ops k i' → i' = i → k ∈ p := by
        intro k i' hk
        induction hk with
        | edge ho' he' hb' hi' => intro e; subst e; rw [ho] at ho'; obtain rfl := Option.some.inj ho'; subst hi'; exact he _ he' hb'
        | step h1 h2 ih1 ih2 => intro e; exact hcl _ _ (ih2 e) h1
      exact this hk rfl
    have hcl' : ∀ k j, j ∈ p ++ [i] → Pre ops k j → k ∈ p ++ [i] := by
      intro k j hj hk
      rcases List.mem_append.1 hj with hj | hj
      · exact List.mem_append.2 (.inl (hcl k j hj hk))
      · obtain rfl : j = i := by simpa using hj
        exact List.mem_append.2 (.inl (hpre k hk))
    -- the operation reads what it reads in the text's order
    have hread : ∀ c ∈ readsAt ty tb nt ops st i, s.get c = (refSt ty tb nt ops st i).get c := by
      intro c hc
      refine hl.agree (last_ref i) (fun j hw => ?_)
      rcases Nat.lt_trichotomy j i with hlt | rfl | hgt
      · exact ⟨fun _ => hlt, fun _ => hpre j (hfree j i c hlt (.inl ⟨hw, .inl hc⟩))⟩
      · exact ⟨fun h => absurd h hi, fun h => absurd h (by omega)⟩
      · exact ⟨fun h => absurd (hcl i j h (hfree i j c hgt (.inr ⟨hc, hw⟩))) hi, fun h => absurd h (by omega)⟩
    have hrun : (evGuarded ty tb (ops.map (·.dst)) o).run s = (evGuarded ty tb (ops.map (·.dst)) o).run (refSt ty tb nt ops st i) :=
      run_agree _ _ _ (fun c hc => hread c (by simpa [readsAt, ho] using hc))
    have hW : writesAt ty tb nt ops st i = writes o.dst ((evGuarded ty tb (ops.map (·.dst)) o).run (refSt ty tb nt ops st i)) := by simp [writesAt, ho]
    have hstep : stepIdx ty tb nt (ops.map (·.dst)) o s = ((stepIdx ty tb nt (ops.map (·.dst)) o (refSt ty tb nt ops st i)).1, s.done o.dst ((evGuarded ty tb (ops.map (·.dst)) o).run (refSt ty tb nt ops st i))) := by
      simp [stepIdx, hrun]
    have hl' : Last ty tb nt ops st (· ∈ p ++ [i]) (stepIdx ty tb nt (ops.map (·.dst)) o s).2 := by
      intro c
      rw [hstep]
      by_cases hc : c ∈ writesAt ty tb nt ops st i
      · refine .inl ⟨i, by simp, hc, fun j hj hw => ?_, ?_⟩
        · rcases List.mem_append.1 hj with hj | hj
          · rcases Nat.lt_or_ge i j with hlt | hge
            · exact absurd (hcl i j hj (hfree i j c hlt (.inl ⟨hc, .inr hw⟩))) hi
            · exact hge
          · have : j = i := by simpa using hj
            omega
        · have hs : refSt ty tb nt ops st (i + 1) = (refSt ty tb nt ops st i).done o.dst ((evGuarded ty tb (ops.map (·.dst)) o).run (refSt ty tb nt ops st i)) := by simp [refSt, ho, stepIdx]
          rw [hs]
          exact (done_get _ _ s (refSt ty tb nt ops st i) c).2 (by rw [← hW]; exact hc)
      · have hsame : (s.done o.dst ((evGuarded ty tb (ops.map (·.dst)) o).run (refSt ty tb nt ops st i))).get c = s.get c := (done_get _ _ s s c).1 (by rw [← hW]; exact hc)
        rcases hl c with ⟨j, h1, h2, h3, h4⟩ | ⟨h1, h2⟩
        · refine .inl ⟨j, List.mem_append.2 (.inl h1), h2, fun j' hj' hw' => ?_, by rw [hsame]; exact h4⟩
          rcases List.mem_append.1 hj' with hj' | hj'
          · exact h3 j' hj' hw'
          · obtain rfl : j' = i := by simpa using hj'
            exact absurd hw' hc
        · refine .inr ⟨fun j hj hw' => ?_, by rw [hsame]; exact h2⟩
          rcases List.mem_append.1 hj with hj | hj
          · exact h1 j hj hw'
          · obtain rfl : j = i := by simpa using hj
            exact hc hw'
    obtain ⟨g1, g2⟩ := ih _ hcl' hl'
    simp only [evIdx, ho]
    refine ⟨⟨by rw [hstep]; exact hobl i o ho, g1⟩, by simpa using g2⟩

end
end Go.Abs

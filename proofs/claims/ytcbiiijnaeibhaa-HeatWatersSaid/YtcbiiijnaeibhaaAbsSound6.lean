/-
  Soundness, sixth part: composites, slices of slices, append.
-/
import Derived.Test.YtcbiiijnaeibhaaAbsSound5
import Derived.Laws.Tables
import Derived.Great.BuildSlice
set_option linter.unusedVariables false
set_option linter.unusedSimpArgs false
namespace Go.Abs
section
variable {P : Program} {ty : Tys} {cx : Cx} {st : St} {m m1 m' : Mp} {a : Act} {w w' : World} {o : Oper} {out : Out}

theorem foldl_set (vs : List Value) (off : Nat) : ∀ (i0 : Nat) (c : Array Value), off + i0 + vs.length ≤ c.size →
    ((vs.zipIdx i0).foldl (fun cs (x : Value × Nat) => cs.setIfInBounds (off + x.2) x.1) c).size = c.size ∧
    ∀ j, ((vs.zipIdx i0).foldl (fun cs (x : Value × Nat) => cs.setIfInBounds (off + x.2) x.1) c)[j]? = if off + i0 ≤ j ∧ j < off + i0 + vs.length then vs[j - (off + i0)]? else c[j]? := by
  induction vs with
  | nil => intro i0 c h; exact ⟨rfl, fun j => by simp; omega⟩
  | cons v vs ih =>
    intro i0 c h
    simp only [List.length_cons] at h
    simp only [List.zipIdx_cons, List.foldl_cons]
    obtain ⟨h1, h2⟩ := ih (i0 + 1) (c.setIfInBounds (off + i0) v) (by simp; omega)
    refine ⟨by rw [h1]; simp, fun j => ?_⟩
    rw [h2 j]
    simp only [List.length_cons]
    by_cases hj : j = off + i0
    · subst hj
      rw [if_neg (by omega), if_pos (by omega)]
      simp [show off + i0 < c.size by omega]
    · by_cases h3 : off + (i0 + 1) ≤ j ∧ j < off + (i0 + 1) + vs.length
      · rw [if_pos h3, if_pos (by omega), show j - (off + i0) = (j - (off + (i0 + 1))) + 1 by omega, List.getElem?_cons_succ]
      · rw [if_neg h3, if_neg (by omega), Array.getElem?_setIfInBounds_ne (by omega)]

def PRel (cx : Cx) (m : Mp) (w : World) (lb : Nat → Option Lab) : List (Nat × AV) → List (Nat × Value) → Prop
  | [], [] => True
  | (i, v) :: r, (j, u) :: s => i = j ∧ RA cx m w lb v u ∧ PRel cx m w lb r s
  | _, _ => False

theorem fill_rel {lb : Nat → Option Lab} (place : Nat → Option (Nat × Nat)) (aps : List (Nat × AV)) : ∀ (vps : List (Nat × Value)) (cs : List AC) (c : Array Value) (cs' : List AC), PRel cx m w lb aps vps → c.size = cs.length →
    (∀ j, j < cs.length → ∃ u, c[j]? = some u ∧ RCl cx m w lb (cs.getD j .undef) u) → fillParts place cs aps = some cs' →
    ∃ c', Instr.fill place c vps = some c' ∧ c'.size = cs'.length ∧ cs'.length = cs.length ∧ ∀ j, j < cs'.length → ∃ u, c'[j]? = some u ∧ RCl cx m w lb (cs'.getD j .undef) u := by
  induction aps with
  | nil =>
    intro vps cs c cs' hl hsz hc hf
    cases vps with
    | nil =>
      simp only [fillParts, Option.some.injEq] at hf
      subst hf
      exact ⟨c, rfl, hsz, rfl, hc⟩
    | cons _ _ => exact hl.elim
  | cons p r ih =>
    intro vps cs c cs' hl hsz hc hf
    cases vps with
    | nil => obtain ⟨i, v⟩ := p; exact hl.elim
    | cons q vr =>
      obtain ⟨i, av⟩ := p
      obtain ⟨i', v⟩ := q
      obtain ⟨rfl, hra, hl⟩ := hl
      cases av with
      | u x =>
        simp only [fillParts] at hf
        split at hf
        · rename_i off n hp
          split at hf
          · rename_i hcond
            obtain ⟨e1, e2, e3⟩ := hcond
            obtain ⟨g1, g2⟩ := ru_cells e2 hra
            have e4 : off + x.cells.length ≤ cs.length := by omega
            obtain ⟨f1, f2⟩ := foldl_set v.cells.toList off 0 c (by simp; omega)
            have hfold : v.cells.zipIdx.foldl (fun cs (x : Value × Nat) => cs.setIfInBounds (off + x.2) x.1) c = (v.cells.toList.zipIdx 0).foldl (fun cs (x : Value × Nat) => cs.setIfInBounds (off + x.2) x.1) c := by
              rw [← Array.foldl_toList, Array.toList_zipIdx]
            obtain ⟨c', k1, k2, k3, k4⟩ := ih vr (splice cs off x.cells) ((v.cells.toList.zipIdx 0).foldl (fun cs (x : Value × Nat) => cs.setIfInBounds (off + x.2) x.1) c) cs' hl
              (by rw [f1, splice_length _ _ _ e4, hsz]) (fun j hj => by
                rw [splice_length _ _ _ e4] at hj
                rw [f2 j, List.getD_eq_getElem?_getD, splice_getElem? _ _ _ e4]
                simp only [Nat.add_zero, Array.length_toList, g1]
                by_cases hin : off ≤ j ∧ j < off + x.cells.length
                · rw [if_pos hin, if_pos hin]
                  obtain ⟨u, hu, hr⟩ := g2 (j - off) (by omega)
                  exact ⟨u, by simpa using hu, by rw [← List.getD_eq_getElem?_getD]; exact hr⟩
                · rw [if_neg hin, if_neg hin, ← List.getD_eq_getElem?_getD]
                  exact hc j hj) hf
            refine ⟨c', ?_, k2, by rw [k3, splice_length _ _ _ e4], k4⟩
            simp only [Instr.fill, hp]
            rw [if_neg (by simp; omega), hfold]
            exact k1
          · cases hf
        · cases hf
      | tup l => simp [fillParts] at hf
      | cnd b x => simp [fillParts] at hf

/-- the parts of a composite: indexes and operands -/
theorem parts_rel (R : Rel cx st m a w) (ps : Array (Nat × Operand)) :
    PRel cx m w (lk st.lb) ((ps.toList.map (·.1)).zip (valsOf st (ps.toList.map (·.2)))) (ps.map fun (x : Nat × Operand) => (x.1, a.eval x.2)).toList := by
  obtain ⟨ps⟩ := ps
  simp only [List.map_toArray]
  induction ps with
  | nil => trivial
  | cons p r ih => exact ⟨rfl, R.val p.2, ih⟩

theorem zero_cells {t : Nat} {i : TI} (hE : TyFact P t i) {z : Value} (h5 : z.cells.toList = i.zero) (lb : Nat → Option Lab) :
    z.cells.size = (i.zero.map zAC).length ∧ ∀ j, j < (i.zero.map zAC).length → ∃ u, z.cells[j]? = some u ∧ RCl cx m w lb ((i.zero.map zAC).getD j .undef) u := by
  rw [← h5]
  refine ⟨by simp, fun j hj => ?_⟩
  simp only [List.length_map, Array.length_toList] at hj
  exact ⟨z.cells[j], by simp [hj], by simpa [hj, List.getD_eq_getElem?_getD] using rcl_zAC lb z.cells[j]⟩

theorem places_struct (hty : TyOk P ty) (fs : List Field) (hall : fs.all (fun f => (ty f.type).isSome) = true) :
    ∃ places, fs.mapM (fun f => (P.info? f.type).map fun i => (f.offset, i.size)) = some places ∧ ∀ i, places.toArray[i]? = fieldPlace' ty fs i := by
  induction fs with
  | nil => exact ⟨[], rfl, fun i => by simp [fieldPlace']⟩
  | cons f r ih =>
    simp only [List.all_cons, Bool.and_eq_true] at hall
    obtain ⟨i, hi⟩ := Option.isSome_iff_exists.1 hall.1
    obtain ⟨info, z, h1, h2, _⟩ := (hty _ i hi).info
    obtain ⟨places, e1, e2⟩ := ih hall.2
    refine ⟨(f.offset, i.size) :: places, by simp [List.mapM_cons, h1, e1, h2], fun j => ?_⟩
    cases j with
    | zero => simp [fieldPlace', hi]
    | succ j => simpa [fieldPlace'] using e2 j

theorem good_build (hty : TyOk P ty) (R : Rel cx st m a w) {t : Nat} {ps : Array (Nat × Operand)} (ho : o.op = .build t ps)
    (hobl : ((evBuild ty t ((ps.toList.map (·.1)).zip (valsOf st (ps.toList.map (·.2))))).run st).obl) :
    Good P cx st a w o ((evBuild ty t ((ps.toList.map (·.1)).zip (valsOf st (ps.toList.map (·.2))))).run st) := by
  have q1 := parts_rel R ps
  generalize ((ps.toList.map (·.1)).zip (valsOf st (ps.toList.map (·.2)))) = aps at *
  revert hobl
  unfold evBuild
  split
  · rename_i sz by' ag z fs en hi
    have hT := hty t _ hi
    obtain ⟨info, zv, h1, h2, h3, h4, h5⟩ := hT.info
    split
    · rename_i hall
      obtain ⟨places, e1, e2⟩ := places_struct hty fs.toList hall
      split
      · rename_i cs' hf
        intro _
        obtain ⟨z1, z2⟩ := zero_cells (cx := cx) (m := m) (w := w) hT h5 (lk st.lb)
        obtain ⟨c', k1, k2, k3, k4⟩ := fill_rel (cx := cx) (m := m) (w := w) (lb := lk st.lb) _ aps _ _ zv.cells cs' q1 z1 z2 hf
        refine good_okv R (u := .agg c') ?_ ⟨c', rfl, k2, k4⟩
        have hb : P.built t (ps.map fun (x : Nat × Operand) => (x.1, a.eval x.2)).toList = some c' := by
          unfold Program.built
          have hpl : (fun x => places.toArray[x]?) = fieldPlace' ty fs.toList := funext e2
          simp only [h1, hT.und, h4, e1, hpl, k1]
        simp only [execOp, ho, Sem.run_bind, run_build w t _ _ hb, Result.andThen_ok, Sem.run_pure]
      · exact bad_elim
    · exact bad_elim
  · rename_i sz by' ag z n e en hi
    have hT := hty t _ hi
    obtain ⟨info, zv, h1, h2, h3, h4, h5⟩ := hT.info
    split
    · rename_i ie he
      obtain ⟨einfo, ez, g1, g2, _⟩ := (hty e ie he).info
      split
      · rename_i cs' hf
        intro _
        obtain ⟨z1, z2⟩ := zero_cells (cx := cx) (m := m) (w := w) hT h5 (lk st.lb)
        obtain ⟨c', k1, k2, k3, k4⟩ := fill_rel (cx := cx) (m := m) (w := w) (lb := lk st.lb) _ aps _ _ zv.cells cs' q1 z1 z2 hf
        refine good_okv R (u := .agg c') ?_ ⟨c', rfl, k2, k4⟩
        have hb : P.built t (ps.map fun (x : Nat × Operand) => (x.1, a.eval x.2)).toList = some c' := by
          unfold Program.built
          simp only [h1, hT.und, h4, g1, g2, k1]
        simp only [execOp, ho, Sem.run_bind, run_build w t _ _ hb, Result.andThen_ok, Sem.run_pure]
      · exact bad_elim
    · exact bad_elim
  · exact bad_elim

theorem reps_length {α : Type} (l : List α) (n : Nat) : (reps l n).length = n * l.length := by
  induction n with
  | zero => simp [reps]
  | succ n ih => simp [reps, ih, Nat.add_mul, Nat.add_comm]
theorem reps_get {α : Type} (l : List α) (n : Nat) : ∀ j, j < n * l.length → (reps l n)[j]? = l[j % l.length]? := by
  induction n with
  | zero => intro j hj; simp at hj
  | succ n ih =>
    intro j hj
    simp only [reps]
    by_cases h : j < l.length
    · rw [List.getElem?_append_left h, Nat.mod_eq_of_lt h]
    · rw [List.getElem?_append_right (by omega), ih _ (by rw [Nat.add_mul] at hj; omega), ← Nat.mod_eq_sub_mod (by omega)]

theorem chunks_length {α : Type} (s : Nat) (l : List α) (n : Nat) : (chunks s l n).length = n := by
  induction n generalizing l with
  | zero => rfl
  | succ n ih => simp [chunks, ih]
theorem chunks_get {α : Type} [Inhabited α] (s : Nat) (l : List α) (n : Nat) (hl : l.length = n * s) (i : Nat) (hi : i < n) :
    ((chunks s l n).getD i []).length = s ∧ ∀ j, j < s → ((chunks s l n).getD i [])[j]? = l[i * s + j]? := by
  induction n generalizing l i with
  | zero => omega
  | succ n ih =>
    rw [Nat.add_mul, Nat.one_mul] at hl
    cases i with
    | zero => simp [chunks]; exact ⟨by omega, fun j hj => by simp [hj]⟩
    | succ i =>
      have := ih (l.drop s) (by simp; omega) i (by omega)
      simp only [chunks, List.getD_cons_succ]
      refine ⟨this.1, fun j hj => ?_⟩
      rw [this.2 j hj, List.getElem?_drop]
      congr 1
      rw [Nat.add_mul]; omega

end
end Go.Abs

/-
  Guarded operations, and regions in an order that is given.
-/
import Derived.Test.YtcbiiijnaeibhaaAbsOp
set_option linter.unusedVariables false
set_option linter.unusedSimpArgs false
namespace Go.Abs

def AV.strip : AV → AV
  | .cnd true x => .u x
  | v => v
def St.strip (st : St) : St := { st with sl := st.sl.map fun p => (p.1, p.2.strip) }
theorem lk_map {α β : Type} (f : α → β) (l : List (Nat × α)) (k : Nat) : lk (l.map fun p => (p.1, f p.2)) k = (lk l k).map f := by
  induction l with
  | nil => rfl
  | cons p r ih => simp only [List.map_cons, lk]; split <;> simp_all

/-- One operation of a region. -/
def dstOk (nt : Nat) : Option Nat → Prop
  | some t => t < nt
  | none => True
def stepIdx (ty : Tys) (tb : Fns) (nt : Nat) (ds : List (Option Nat)) (o : Oper) (st : St) : Prop × St :=
  ((((evGuarded ty tb ds o).run st).obl ∧ dstOk nt o.dst), st.done o.dst ((evGuarded ty tb ds o).run st))
/-- Operations of a region, in the order of a list of their places. -/
def evIdx (ty : Tys) (tb : Fns) (nt : Nat) (ops : List Oper) : List Nat → St → Prop × St
  | [], st => (True, st)
  | i :: l, st =>
    match ops[i]? with
    | none => evIdx ty tb nt ops l st
    | some o => ((stepIdx ty tb nt (ops.map (·.dst)) o st).1 ∧ (evIdx ty tb nt ops l (stepIdx ty tb nt (ops.map (·.dst)) o st).2).1, (evIdx ty tb nt ops l (stepIdx ty tb nt (ops.map (·.dst)) o st).2).2)
/-- Operations of a region, in the order of the text. -/
def evSeq (ty : Tys) (tb : Fns) (nt : Nat) (ds : List (Option Nat)) : List Oper → St → Prop × St
  | [], st => (True, st)
  | o :: r, st => ((stepIdx ty tb nt ds o st).1 ∧ (evSeq ty tb nt ds r (stepIdx ty tb nt ds o st).2).1, (evSeq ty tb nt ds r (stepIdx ty tb nt ds o st).2).2)
theorem nthD_map (ops : List Oper) (j : Nat) : nthD (ops.map (·.dst)) j = (ops[j]?).bind (·.dst) := by
  induction ops generalizing j with
  | nil => rfl
  | cons o r ih => cases j <;> simp [nthD, ih]

theorem evIdx_seq (ty : Tys) (tb : Fns) (nt : Nat) (ops : List Oper) : ∀ (r p : List Oper) (st : St), ops = p ++ r → evIdx ty tb nt ops ((List.range r.length).map (p.length + ·)) st = evSeq ty tb nt (ops.map (·.dst)) r st
  | [], p, st, _ => rfl
  | o :: r, p, st, h => by
    have hl : (List.range (o :: r).length).map (p.length + ·) = p.length :: (List.range r.length).map ((p ++ [o]).length + ·) := by
      rw [List.length_cons, List.range_succ_eq_map, List.map_cons, List.map_map]
      simp only [List.length_append, List.length_singleton, Nat.add_zero]
      congr 1
      apply List.map_congr_left
      intro x _
      simp; omega
    have ho : ops[p.length]? = some o := by rw [h, List.getElem?_append_right (Nat.le_refl _)]; simp
    rw [hl]
    simp only [evIdx, ho, evSeq]
    rw [evIdx_seq ty tb nt ops r (p ++ [o]) _ (by rw [h]; simp)]

section
variable {P : Program} {ty : Tys} {tb : Fns} {cx : Cx} {st : St} {m m1 m' : Mp} {a : Act} {w w' : World} {o : Oper} {out : Out} {ws : List Wr}

theorem Rel.strip (R : Rel cx st m a w) : Rel cx st.strip m a w := by
  refine { R with slots := fun t v h => ?_ }
  simp only [St.strip, lk_map, Option.map_eq_some_iff] at h
  obtain ⟨u, hu, rfl⟩ := h
  obtain ⟨h1, h2⟩ := R.slots t u hu
  refine ⟨h1, ?_⟩
  unfold AV.strip
  split
  · exact h2.1 rfl
  · exact h2
theorem Rel.unstrip (R : Rel cx st.strip m a w) : Rel cx st m a w := by
  refine { R with slots := fun t v h => ?_ }
  have := R.slots t v.strip (by simp only [St.strip, lk_map, h, Option.map_some])
  refine ⟨this.1, ?_⟩
  cases v with
  | cnd b x =>
    cases b with
    | true => exact ⟨fun _ => this.2, fun h => absurd h (by simp)⟩
    | false => exact this.2
  | _ => exact this.2

theorem run_addObl (p : Prop) (r : Rd Out) (st : St) : (addObl p r).run st = { r.run st with obl := p ∧ (r.run st).obl } := by
  induction r with
  | ret o => rfl
  | slot t k ih => simp only [addObl, Rd.run]; exact ih _
  | box b k ih => simp only [addObl, Rd.run]; exact ih _
  | lab l k ih => simp only [addObl, Rd.run]; exact ih _

theorem underC_shape (c : Bool) (r : Rd Out) (st : St) (h : ((underC c r).run st).obl) : ∃ x, ((underC c r).run st).dst = .cnd c x ∧ ((underC c r).run st).wr = [] := by
  induction r with
  | ret o =>
    simp only [underC] at h ⊢
    split at h
    · exact ⟨_, rfl, rfl⟩
    · exact h.elim
  | slot t k ih =>
    simp only [underC, Rd.run] at h ⊢
    split at h
    · rw [run_addObl] at h ⊢
      exact ih _ h.2
    · exact ih _ h
  | box b k ih => exact ih _ h
  | lab l k ih => exact ih _ h

theorem underC_true (r : Rd Out) (st : St) (h : ((underC true r).run st).obl) : ∃ x, ((underC true r).run st).dst = .cnd true x ∧ ((underC true r).run st).wr = [] ∧ (r.run st.strip).obl ∧ (r.run st.strip).dst = .u x ∧ (r.run st.strip).wr = [] := by
  induction r with
  | ret o =>
    simp only [underC] at h ⊢
    split at h
    · rename_i x h1 h2
      exact ⟨_, rfl, rfl, h (by first | rfl | trivial), h2, h1⟩
    · exact h.elim
  | slot t k ih =>
    simp only [underC, Rd.run, St.strip, lk_map] at h ⊢
    split at h
    · rename_i q x hv
      rw [run_addObl] at h ⊢
      have hq : q = true := h.1 trivial
      subst hq
      have hl : ((lk st.sl t).map AV.strip).getD default = .u x := by
        cases hs : lk st.sl t with
        | none => rw [hs] at hv; cases hv
        | some v => rw [hs] at hv; simp only [Option.getD_some] at hv; subst hv; rfl
      simp only [hl]
      exact ih _ h.2
    · rename_i hne
      have hl : ((lk st.sl t).map AV.strip).getD default = (lk st.sl t).getD default := by
        cases hs : lk st.sl t with
        | none => rfl
        | some v =>
          simp only [Option.map_some, Option.getD_some]
          cases v with
          | cnd b x => exact (hne b x (by rw [hs]; rfl)).elim
          | _ => rfl
      simp only [hl]
      exact ih _ h
  | box b k ih => exact ih _ h
  | lab l k ih => exact ih _ h

theorem rel_done (R : Rel cx (putAll st out.wr) m' a w) {dst : Option Nat} {v : Value} (hd : dstOk cx.nt dst) (hv : RA cx m' w (lk (putAll st out.wr).lb) out.dst v) :
    Rel cx (st.done dst out) m' (a.put dst v) w := by
  cases dst with
  | none => exact R
  | some t => exact R.slot hd hv

theorem valOf_strip (x : Operand) : valOf st.strip x = (valOf st x).strip := by
  cases x with
  | tmp t =>
    simp only [valOf, St.strip, lk_map]
    cases lk st.sl t <;> rfl
  | const v => cases v <;> rfl
  | _ => rfl
theorem unstrip_strip {v : AV} {x : AU} {q : Bool} (h : unstrip v = some (x, q)) : unstrip v.strip = some (x, q) ∧ (q = true → v.strip = .u x) := by
  cases v with
  | u y => obtain ⟨rfl, rfl⟩ := by simpa [unstrip] using h
           exact ⟨rfl, fun _ => rfl⟩
  | cnd c y =>
    obtain ⟨rfl, rfl⟩ := by simpa [unstrip] using h
    cases c with
    | true => exact ⟨rfl, fun _ => rfl⟩
    | false => exact ⟨rfl, fun h => by cases h⟩
  | tup l => cases h
theorem underG_shape (c : Bool) (o : Oper) (r : Rd Out) (st : St) (h : ((underG c o.op r).run st).obl) : ∃ x, ((underG c o.op r).run st).dst = .cnd c x ∧ ((underG c o.op r).run st).wr = [] := by
  unfold underG at h ⊢
  split at h
  · rename_i p x y heq
    simp only [run_opd] at h ⊢
    unfold evPickC at h ⊢
    split at h
    · split at h
      · exact ⟨_, rfl, rfl⟩
      · exact ⟨_, rfl, rfl⟩
      · exact h.elim
    · exact h.elim
  · exact underC_shape c r st h
theorem underG_true {ty : Tys} {tb : Fns} (o : Oper) (st : St) (h : ((underG true o.op (evOp ty tb false o)).run st).obl) :
    ∃ x, ((underG true o.op (evOp ty tb false o)).run st).dst = .cnd true x ∧ ((underG true o.op (evOp ty tb false o)).run st).wr = [] ∧ ((evOp ty tb false o).run st.strip).obl ∧ ((evOp ty tb false o).run st.strip).dst = .u x ∧ ((evOp ty tb false o).run st.strip).wr = [] := by
  unfold underG at h ⊢
  split at h
  · rename_i p x y heq
    have e : ∀ s : St, (evOp ty tb false o).run s = (evPick (valOf s p) (valOf s x) (valOf s y)).run s := by
      intro s
      simp only [evOp, heq, run_opd]
    rw [e, valOf_strip, valOf_strip, valOf_strip]
    simp only [run_opd] at h ⊢
    unfold evPickC at h ⊢
    split at h
    · rename_i p' qp x' q y' r h1 h2 h3
      obtain ⟨g1, g1'⟩ := unstrip_strip h1
      obtain ⟨g2, -⟩ := unstrip_strip h2
      obtain ⟨g3, -⟩ := unstrip_strip h3
      split at h
      · obtain ⟨k1, k2, k3⟩ := h rfl
        refine ⟨_, rfl, rfl, ?_⟩
        rw [g1' k1]
        simp only [evPick, g2, g3, Rd.run]
        exact ⟨⟨k2, k3⟩, trivial, trivial⟩
      · obtain ⟨k1, k2, k3, k4⟩ := h rfl
        refine ⟨_, rfl, rfl, ?_⟩
        rw [g1' k1]
        simp only [evPick, g2, g3, Rd.run]
        exact ⟨⟨k2, k3, k4⟩, trivial, trivial⟩
      · exact h.elim
    · exact h.elim
  · exact underC_true _ st h

/-- One operation, guarded or not. -/
theorem step_good (hty : TyOk P ty) (htb : FnsOk P tb) (R : Rel cx st m a w) {ops : Array Oper} {rest : Act → World → Prop} {Q : Exit → Act → World → Prop}
    (hobl : (stepIdx ty tb cx.nt (ops.toList.map (·.dst)) o st).1) (hnext : ∀ m' a' w', Rel cx (stepIdx ty tb cx.nt (ops.toList.map (·.dst)) o st).2 m' a' w' → rest a' w') :
    if Region.wanted o (yielded ops a.tmps) then o.wp P a w rest Q ∨ (o.asks P a w ∧ LetsOut Q) else rest (a.put o.dst undef) w := by
  obtain ⟨h1, h2⟩ := hobl
  simp only [stepIdx] at hnext
  unfold evGuarded at h1 hnext
  simp only [nthD_map] at h1 hnext
  cases hg : o.guard with
  | none =>
    simp only [hg] at h1 hnext
    rw [if_pos (by simp [Region.wanted, hg])]
    exact .inl (evOp_good hty htb R h1 rest Q fun v m' w' R' hv => hnext m' _ w' (rel_done R' h2 hv))
  | some g =>
    obtain ⟨j, want⟩ := g
    simp only [hg] at h1 hnext
    have hyield : ∀ t, (ops.toList[j]?).bind (·.dst) = some t → yielded ops a.tmps j = (match a.tmps[t]? with | some (.bool b) => some b | _ => none) := by
      intro t ht
      simp only [yielded]
      rw [← Array.getElem?_toList, ht]
      rfl
    -- what both forms of the guard's slot come to
    have key : ∀ c : Bool, (Region.wanted o (yielded ops a.tmps) = true ↔ c = true) → ((underG c o.op (evOp ty tb false o)).run st).obl →
        (∀ m' a' w', Rel cx (st.done o.dst ((underG c o.op (evOp ty tb false o)).run st)) m' a' w' → rest a' w') →
        if Region.wanted o (yielded ops a.tmps) then o.wp P a w rest Q ∨ (o.asks P a w ∧ LetsOut Q) else rest (a.put o.dst undef) w := by
      intro c hc k1 k2
      cases c with
      | true =>
        rw [if_pos (hc.2 rfl)]
        obtain ⟨x, e1, e2, e3, e4, e5⟩ := underG_true _ _ k1
        refine .inl (evOp_good hty htb R.strip e3 rest Q fun v m' w' R' hv => k2 m' _ w' ?_)
        rw [e5] at R' hv
        rw [e4] at hv
        refine rel_done (st := st) (m' := m') ?_ h2 ?_
        · rw [e2]; exact Rel.unstrip R'
        · rw [e2, e1]; exact ⟨fun _ => hv, fun h => absurd h (by simp)⟩
      | false =>
        rw [if_neg (by intro h; exact absurd (hc.1 h) (by simp))]
        obtain ⟨x, e1, e2⟩ := underG_shape _ _ _ _ k1
        refine k2 m _ w (rel_done (st := st) (m' := m) ?_ h2 ?_)
        · rw [e2]; exact R
        · rw [e2, e1]; exact ⟨fun h => absurd h (by simp), fun _ => rfl⟩
    cases hj : (ops.toList[j]?).bind (·.dst) with
    | none => simp only [hj] at h1; exact h1.elim
    | some t =>
      simp only [hj, Rd.run] at h1 hnext
      have hy := hyield t hj
      have ht : ∀ v, lk st.sl t = some v → a.tmps[t]? = some (a.tmps.getD t undef) := by
        intro v hv
        have := (R.slots t v hv).1
        rw [← R.nt] at this
        simp [Array.getD_eq_getD_getElem?, this]
      cases hv : lk st.sl t with
      | none => simp only [hv, Option.getD_none] at h1; exact h1.elim
      | some v =>
        simp only [hv, Option.getD_some] at h1 hnext
        have hr := (R.slots t v hv).2
        rw [ht v hv] at hy
        split at h1
        · rename_i b
          refine key (b == want) ?_ h1 hnext
          rw [rd_bool hr] at hy
          simp only at hy
          simp only [Region.wanted, hg, hy]
          cases b <;> cases want <;> simp
        · rename_i q b
          refine key (q && (b == want)) ?_ h1 hnext
          cases q with
          | true =>
            rw [rd_bool (hr.1 rfl)] at hy
            simp only at hy
            simp only [Region.wanted, hg, hy, Bool.true_and]
            cases b <;> cases want <;> simp
          | false =>
            rw [hr.2 rfl] at hy
            simp only [undef] at hy
            simp [Region.wanted, hg, hy]
        · exact h1.elim

theorem ops_sound (hty : TyOk P ty) (htb : FnsOk P tb) {ops : Array Oper} {Q : Exit → Act → World → Prop} (l : List Nat) : ∀ (st : St) (m : Mp) (a : Act) (w : World), Rel cx st m a w → (evIdx ty tb cx.nt ops.toList l st).1 →
    (∀ m' a' w', Rel cx (evIdx ty tb cx.nt ops.toList l st).2 m' a' w' → Q .normal a' w') → wpOps P ops Q l a w := by
  induction l with
  | nil => intro st m a w R _ h; exact h m a w R
  | cons i l ih =>
    intro st m a w R h1 h2
    simp only [wpOps]
    simp only [evIdx, Array.getElem?_toList] at h1 h2
    cases ho : ops[i]? with
    | none => simp only [ho] at h1 h2; exact ih st m a w R h1 h2
    | some o =>
      simp only [ho] at h1 h2
      exact step_good hty htb R h1.1 (fun m' a' w' R' => ih _ m' a' w' R' h1.2 h2)

/-- A REGION in the order of its text. -/
theorem region_sound (hty : TyOk P ty) (htb : FnsOk P tb) (R : Rel cx st m a w) {id : Nat} {ops : Array Oper} {Q : Exit → Act → World → Prop} (h1 : (evSeq ty tb cx.nt (ops.toList.map (·.dst)) ops.toList st).1)
    (h2 : ∀ m' a' w', Rel cx (evSeq ty tb cx.nt (ops.toList.map (·.dst)) ops.toList st).2 m' a' w' → Q .normal a' w') : (Code.region id ops false).wp P Q a w := by
  have e := evIdx_seq ty tb cx.nt ops.toList ops.toList [] st rfl
  simp only [List.length_nil, Nat.zero_add, Array.length_toList] at e
  have e2 : (List.range ops.size).map (fun x => x) = List.range ops.size := by simp
  rw [e2] at e
  exact wp_region (ops_sound hty htb _ st m a w R (by rw [e]; exact h1) (by rw [e]; exact h2))

end
end Go.Abs

/-
  Soundness, second part: operations, one by one.
-/
import Derived.Test.YtcbiiijnaeibhaaAbsSound1
set_option linter.unusedVariables false
set_option linter.unusedSimpArgs false
namespace Go.Abs

def Good (P : Program) (cx : Cx) (st : St) (a : Act) (w : World) (o : Oper) (out : Out) : Prop :=
  ∀ (next : Act → World → Prop) (Q : Exit → Act → World → Prop),
    (∀ v m' w', Rel cx (putAll st out.wr) m' a w' → RA cx m' w' (lk (putAll st out.wr).lb) out.dst v → next (a.put o.dst v) w') → o.wp P a w next Q

section
variable {P : Program} {ty : Tys} {cx : Cx} {st : St} {m m' : Mp} {a : Act} {w w' : World} {o : Oper} {out : Out}

theorem Good.val {v : Value} (hrun : (execOp a.eval o).run P w = .ok (.value v) w') (R' : Rel cx (putAll st out.wr) m' a w')
    (hv : RA cx m' w' (lk (putAll st out.wr).lb) out.dst v) : Good P cx st a w o out := by
  intro next Q h
  unfold Oper.wp
  rw [hrun, Oper.upon_value]
  exact h v m' w' R' hv

theorem Good.skip (hrun : (execOp a.eval o).run P w = .ok .skip w') (R' : Rel cx (putAll st out.wr) m' a w') (hd : out.dst = default) : Good P cx st a w o out := by
  intro next Q h
  unfold Oper.wp
  rw [hrun, Oper.upon_skip]
  exact h undef m' w' R' (by rw [hd]; trivial)

theorem bad_elim {p : Prop} (h : (bad.run st).obl) : p := h.elim

theorem good_okv {v : AV} {u : Value} (R : Rel cx st m a w) (hrun : (execOp a.eval o).run P w = .ok (.value u) w) (hv : RA cx m w (lk st.lb) v u) :
    Good P cx st a w o ((okv v).run st) := Good.val (m' := m) hrun R hv

theorem good_move (R : Rel cx st m a w) {x : Operand} (ho : o.op = .move x ∨ o.op = .assign x) : Good P cx st a w o ((okv (valOf st x)).run st) := by
  refine good_okv R (u := a.eval x) ?_ (R.val x)
  rcases ho with ho | ho <;> simp [execOp, ho]

theorem evLoad_val (hty : TyOk P ty) (R : Rel cx st m a w) {t : Nat} {av : AV} {u : Value} (hx : RA cx m w (lk st.lb) av u) (hobl : ((evLoad ty t av).run st).obl) :
    ∃ b v, u = .pointer (some b) ∧ (loadVar t b).run P w = .ok v w ∧ RA cx m w (lk st.lb) ((evLoad ty t av).run st).dst v ∧ ((evLoad ty t av).run st).wr = [] := by
  revert hobl
  unfold evLoad
  split
  · rename_i i b off hi
    simp only [Rd.run]
    split
    · rename_i cs hb
      intro hobl
      obtain ⟨B, hB, hp⟩ := hx
      obtain ⟨B', c, T, h1, h2, h3, h4⟩ := R.boxes b cs hb
      obtain rfl : B = B' := Option.some.inj (hB.symm.trans h1)
      obtain ⟨v, hv, hr, hw⟩ := load_rel (P := P) (cx := cx) (st := st) (m := m) (w := w) (lb := lk st.lb) (hty t i hi) (B := B) (o := 0) hobl (fun j hj => by
        obtain ⟨u, hu, hr⟩ := h4 j hj
        exact ⟨u, by simp [World.cell?, h2, hu], hr⟩)
      rw [Nat.zero_add] at hv
      exact ⟨_, v, hp, hv, hr, hw⟩
    · exact bad_elim
  · rename_i i k j off hi
    have key : ∀ x : D, (∃ B o, u = .pointer (some ⟨B, o + off, none⟩) ∧ ∀ q, q < (x.nth j).length → ∃ u, w.cell? ⟨B, o + q, none⟩ = some u ∧ RD w (Sof cx m) ((x.nth j).getD q .undef) u) →
        ((loadD i off ((x.nth j).map .d)).run st).obl → ∃ b v, u = .pointer (some b) ∧ (loadVar t b).run P w = .ok v w ∧ RA cx m w (lk st.lb) ((loadD i off ((x.nth j).map .d)).run st).dst v ∧ ((loadD i off ((x.nth j).map .d)).run st).wr = [] := by
      intro x ⟨B, o', hp, hc⟩ hobl
      obtain ⟨v, hv, hr, hw⟩ := load_rel (P := P) (cx := cx) (st := st) (m := m) (w := w) (lb := lk st.lb) (hty t i hi) (B := B) (o := o') hobl (fun q hq => by
        simp only [List.length_map] at hq
        obtain ⟨u, hu, hr⟩ := hc q hq
        refine ⟨u, hu, ?_⟩
        have e : ((x.nth j).map AC.d).getD q .undef = .d ((x.nth j).getD q .undef) := by simp [List.getD_eq_getElem?_getD, hq]
        rw [e]; exact hr)
      exact ⟨_, v, hp, hv, hr, hw⟩
    simp only [Rd.run]
    simp only [RA, RU, RCl] at hx
    split
    · rename_i y hl
      simp only [hl] at hx
      obtain ⟨hj, B, hB, hp⟩ := hx
      obtain ⟨hsl, hrow⟩ := R.owned k y hl
      obtain ⟨c, T, hc, _, hy⟩ := hrow B hB
      refine key y ⟨B, j * y.stride, hp, fun q hq => ?_⟩
      rw [(hy j hj).1] at hq
      obtain ⟨u, hu, hd⟩ := (hy j hj).2 q hq
      exact ⟨u, by simp [World.cell?, hc, hu], hd⟩
    · rename_i y hl
      simp only [hl] at hx
      obtain ⟨hj, hlen, B, o', hp, hB, hS, hc⟩ := hx
      exact key y ⟨B, o', hp, hc⟩
    · exact bad_elim
  · rename_i i l off hi
    intro hobl
    obtain ⟨B, o', hp, hB, hS, hc⟩ := hx
    obtain ⟨v, hv, hr, hw⟩ := load_rel (P := P) (cx := cx) (st := st) (m := m) (w := w) (lb := lk st.lb) (hty t i hi) (B := B) (o := o') hobl (fun q hq => by
      simp only [List.length_map] at hq
      obtain ⟨u, hu, hr⟩ := hc q hq
      refine ⟨u, hu, ?_⟩
      have e : (l.map AC.d).getD q .undef = .d (l.getD q .undef) := by simp [List.getD_eq_getElem?_getD, hq]
      rw [e]; exact hr)
    exact ⟨_, v, hp, hv, hr, hw⟩
  · exact bad_elim

theorem good_load (hty : TyOk P ty) (R : Rel cx st m a w) {t : Nat} {x : Operand} (ho : o.op = .load t x) (hobl : ((evLoad ty t (valOf st x)).run st).obl) :
    Good P cx st a w o ((evLoad ty t (valOf st x)).run st) := by
  obtain ⟨b, v, hp, hv, hr, hw⟩ := evLoad_val (P := P) hty R (R.val x) hobl
  refine Good.val (m' := m) (w' := w) (v := v) ?_ (by rw [hw]; exact R) (by rw [hw]; exact hr)
  simp [execOp, ho, Instr.loadAt, Instr.sureAddr, hp, hv]

theorem run_newBox (st : St) (nm : Nat) (f : Nat → Rd Out) :
    (∃ b, lk st.bx b = none ∧ (newBox nm f).run st = (f b).run st) ∨ (newBox nm f).run st = ⟨False, default, []⟩ := by
  simp only [newBox, Rd.run]
  split
  · rename_i h; exact .inl ⟨_, h, rfl⟩
  · simp only [Rd.run]
    split
    · rename_i h; exact .inl ⟨_, h, rfl⟩
    · simp only [Rd.run]
      split
      · rename_i h; exact .inl ⟨_, h, rfl⟩
      · exact .inr rfl
theorem run_newLab (st : St) (nm : Nat) (f : Nat → Rd Out) :
    (∃ b, lk st.lb b = none ∧ (newLab nm f).run st = (f b).run st) ∨ (newLab nm f).run st = ⟨False, default, []⟩ := by
  simp only [newLab, Rd.run]
  split
  · rename_i h; exact .inl ⟨_, h, rfl⟩
  · simp only [Rd.run]
    split
    · rename_i h; exact .inl ⟨_, h, rfl⟩
    · simp only [Rd.run]
      split
      · rename_i h; exact .inl ⟨_, h, rfl⟩
      · exact .inr rfl

/-- solid cells are single cells in the model, too -/
theorem rcl_one {lb : Nat → Option Lab} {x : AC} {v : Value} (hs : x.solid = true) (h : RCl cx m w lb x v) : One v := by
  cases x with
  | undef => simp [AC.solid] at hs
  | d x => exact RD.one h
  | nils => obtain rfl := h; exact ⟨rfl, rfl⟩
  | own k =>
    simp only [RCl] at h
    split at h
    · exact h.elim
    · exact h
    · exact rd_sl_one h.1 h.2
    · exact hdl_one h
  | ref b off => obtain ⟨B, _, rfl⟩ := h; exact ⟨rfl, rfl⟩
  | optr k i off =>
    simp only [RCl] at h
    split at h
    · exact h.elim
    · exact h
    · obtain ⟨_, _, B, o, rfl, _⟩ := h; exact ⟨rfl, rfl⟩
    · obtain ⟨_, B, _, rfl⟩ := h; exact ⟨rfl, rfl⟩
  | sptr l off => obtain ⟨B, o, rfl, _⟩ := h; exact ⟨rfl, rfl⟩
  | clo f caps => obtain ⟨vs, rfl, _⟩ := h; exact ⟨rfl, rfl⟩

/-- the cells of a value of a slot -/
theorem ru_cells {lb : Nat → Option Lab} {x : AU} {v : Value} (hs : x.solid = true) (h : RU cx m w lb x v) :
    v.cells.size = x.cells.length ∧ ∀ j, j < x.cells.length → ∃ u, v.cells[j]? = some u ∧ RCl cx m w lb (x.cells.getD j .undef) u := by
  cases x with
  | c x =>
    rw [(rcl_one hs h).1]
    refine ⟨rfl, fun j hj => ?_⟩
    simp only [AU.cells, List.length_singleton] at hj
    obtain rfl : j = 0 := by omega
    exact ⟨v, rfl, h⟩
  | agg l => obtain ⟨vs, rfl, hsz, hc⟩ := h; exact ⟨hsz, hc⟩

theorem good_box (R : Rel cx st m a w) {t : Nat} {x : Operand} {nm : Nat} {v : AU} (ho : o.op = .box t x) (hx : RU cx m w (lk st.lb) v (a.eval x)) (hobl : ((newBox nm fun b => .ret ⟨v.solid = true, .c (.ref b 0), [.box b v.cells]⟩).run st).obl) :
    Good P cx st a w o ((newBox nm fun b => .ret ⟨v.solid = true, .c (.ref b 0), [.box b v.cells]⟩).run st) := by
  rcases run_newBox st nm (fun b => .ret ⟨v.solid = true, .c (.ref b 0), [.box b v.cells]⟩) with ⟨b, hb, h⟩ | h
  · rw [h] at hobl ⊢
    simp only [Rd.run] at hobl ⊢
    obtain ⟨h1, h2⟩ := ru_cells hobl hx
    refine Good.val (m' := ⟨m.own, upd m.box b (some w.heap.size)⟩) (w' := { w with heap := w.heap.push (.cells (a.eval x).cells t (0, 0)) }) (v := .pointer (some ⟨w.heap.size, 0, none⟩)) ?_ ?_ ?_
    · simp [execOp, ho, Instr.box, newVar, newRow]
    · exact R.newBox hb h1 h2
    · exact ⟨w.heap.size, upd_same _ _ _, rfl⟩
  · rw [h] at hobl; exact hobl.elim

theorem good_alloc (hty : TyOk P ty) (R : Rel cx st m a w) {t nm : Nat} {i : TI} (ho : o.op = .alloc t) (hi : ty t = some i)
    (hobl : ((newBox nm fun b => .ret ⟨True, .c (.ref b 0), [.box b (i.zero.map zAC)]⟩).run st).obl) :
    Good P cx st a w o ((newBox nm fun b => .ret ⟨True, .c (.ref b 0), [.box b (i.zero.map zAC)]⟩).run st) := by
  rcases run_newBox st nm (fun b => .ret ⟨True, .c (.ref b 0), [.box b (i.zero.map zAC)]⟩) with ⟨b, hb, h⟩ | h
  · rw [h] at hobl ⊢
    simp only [Rd.run] at hobl ⊢
    obtain ⟨z, hz, hzc⟩ := (hty t i hi).zero_run w
    refine Good.val (m' := ⟨m.own, upd m.box b (some w.heap.size)⟩) (w' := { w with heap := w.heap.push (.cells z.cells t (0, 0)) }) (v := .pointer (some ⟨w.heap.size, 0, none⟩)) ?_ ?_ ?_
    · simp [execOp, ho, Instr.alloc, hz, newVar, newRow]
    · refine R.newBox hb (by rw [← hzc]; simp) (fun j hj => ?_)
      rw [← hzc] at hj ⊢
      simp only [List.length_map, Array.length_toList] at hj
      exact ⟨z.cells[j], by simp [hj], by simpa [hj, List.getD_eq_getElem?_getD] using rcl_zAC (lk st.lb) z.cells[j]⟩
    · exact ⟨w.heap.size, upd_same _ _ _, rfl⟩
  · rw [h] at hobl; exact hobl.elim

end
end Go.Abs

/-
  Soundness, fifth part: data of cells, new slices.
-/
import Derived.Test.YtcbiiijnaeibhaaAbsSound4
set_option linter.unusedVariables false
set_option linter.unusedSimpArgs false
namespace Go.Abs
section
variable {P : Program} {ty : Tys} {cx : Cx} {st : St} {m m1 m' : Mp} {a : Act} {w w' : World} {o : Oper} {out : Out}

/-- all blocks that the call knows -/
def Known (cx : Cx) (w : World) (B : Nat) : Prop := B < w.heap.size ∧ (cx.S0 B ∨ cx.w0.heap.size ≤ B)

theorem known_ext (cx : Cx) (m : Mp) (w : World) : Ext w w (Sof cx m) (Known cx w) := ⟨Nat.le_refl _, fun _ _ _ => rfl, fun B hB h => ⟨hB, h.1⟩⟩

def DOf (lb : Nat → Option Lab) : AC → D → Prop
  | .d y, d => d = y
  | .nils, d => d = .sl 0 0 fun _ => []
  | .own k, d => lb k = some (.owned d) ∨ lb k = some (.shared d)
  | _, _ => False

theorem run_toD (st : St) (x : AC) (f : D → Rd Out) : (∃ d, DOf (lk st.lb) x d ∧ (toD x f).run st = (f d).run st) ∨ (toD x f).run st = ⟨False, default, []⟩ := by
  cases x <;> simp only [toD] <;> first | exact .inl ⟨_, rfl, rfl⟩ | exact .inr rfl | skip
  simp only [Rd.run]
  split
  · rename_i h; exact .inl ⟨_, .inl h, rfl⟩
  · rename_i h; exact .inl ⟨_, .inr h, rfl⟩
  · exact .inr rfl

theorem Rel.dof (R : Rel cx st m a w) {x : AC} {d : D} {v : Value} (hd : DOf (lk st.lb) x d) (hx : RCl cx m w (lk st.lb) x v) : RD w (Known cx w) d v := by
  cases x with
  | d y => obtain rfl := hd; exact RD.ext (known_ext cx m w) hx
  | nils => obtain rfl := hd; obtain rfl := hx; exact .sl0 _ _ _ _
  | own k =>
    simp only [RCl] at hx
    rcases hd with hd | hd
    · simp only [hd] at hx
      obtain ⟨hs, hrow⟩ := R.owned k d hd
      cases hB : m.own k with
      | none =>
        simp only [hB, Hdl] at hx
        obtain ⟨rfl, hn⟩ := hx
        rw [D.eta hs, hn]; exact .sl0 _ _ _ _
      | some B =>
        simp only [hB, Hdl] at hx
        obtain ⟨cap, c, T, rfl, _, _, hle⟩ := hx
        have hb := R.ownb k B hB
        exact row_rd ((hrow B hB).ext (known_ext cx m w) rfl) ⟨hb.2, .inr hb.1⟩ hb.2 hle
    · simp only [hd] at hx
      exact hx.2.ext (known_ext cx m w)
  | _ => exact hd.elim

def DsOf (lb : Nat → Option Lab) (l : List AC) (ds : List D) : Prop := ds.length = l.length ∧ ∀ j, j < l.length → DOf lb (l.getD j .undef) (ds.getD j .undef)

theorem run_toDs (st : St) (l : List AC) (f : List D → Rd Out) : (∃ ds, DsOf (lk st.lb) l ds ∧ (toDs l f).run st = (f ds).run st) ∨ (toDs l f).run st = ⟨False, default, []⟩ := by
  induction l generalizing f with
  | nil => exact .inl ⟨[], ⟨rfl, fun j hj => by simp at hj⟩, rfl⟩
  | cons x r ih =>
    simp only [toDs]
    rcases run_toD st x (fun d => toDs r fun ds => f (d :: ds)) with ⟨d, hd, h⟩ | h
    · rw [h]
      rcases ih (fun ds => f (d :: ds)) with ⟨ds, hds, h2⟩ | h2
      · refine .inl ⟨d :: ds, ⟨by simp [hds.1], fun j hj => ?_⟩, h2⟩
        cases j with
        | zero => exact hd
        | succ j => exact hds.2 j (by simpa using hj)
      · exact .inr h2
    · exact .inr h

theorem putAll_append (st : St) (ws vs : List Wr) : putAll st (ws ++ vs) = putAll (putAll st ws) vs := by
  induction ws generalizing st with
  | nil => rfl
  | cons x r ih => exact ih _

theorem putAll_sl (st : St) (ws : List Wr) : (putAll st ws).sl = st.sl := by
  induction ws generalizing st with
  | nil => rfl
  | cons x r ih => simp only [putAll]; rw [ih]; cases x <;> rfl

/-- states that lk alike -/
theorem Rel.alike (R : Rel cx st m a w) {sl : List (Nat × AV)} {bx : List (Nat × List AC)} {lb : List (Nat × Lab)} (h1 : ∀ k, lk sl k = lk st.sl k) (h2 : ∀ k, lk bx k = lk st.bx k) (h3 : ∀ k, lk lb k = lk st.lb k) :
    Rel cx ⟨sl, bx, lb⟩ m a w := by
  have e1 : lk sl = lk st.sl := funext h1
  have e2 : lk bx = lk st.bx := funext h2
  have e3 : lk lb = lk st.lb := funext h3
  exact { defers := R.defers, nt := R.nt, env := R.env, size := R.size, old := R.old, s0 := R.s0, slots := by simp only [e1, e3]; exact R.slots, sus := by simp only [e3]; exact R.sus, boxes := by simp only [e2, e3]; exact R.boxes,
          nobox := by simp only [e2]; exact R.nobox, owned := by simp only [e3]; exact R.owned, noown := by simp only [e3]; exact R.noown, ownb := R.ownb, boxb := R.boxb, injo := R.injo, injb := R.injb, dis := R.dis }

/-- some owned labels have become shared -/
def Up (st st' : St) : Prop := st'.bx = st.bx ∧ ∀ k, lk st'.lb k = lk st.lb k ∨ ∃ x, lk st.lb k = some (.owned x) ∧ lk st'.lb k = some (.shared x)

def labsOf (l : List AC) : List Nat := l.filterMap (fun | .own k => some k | _ => none)

/-- what 'shareLabs' leaves: the same state with some labels shared -/
theorem run_shareLabs' (l : List AC) (f : List Wr → Rd Out) :
    (∃ ws, (shareLabs l f).run st = (f ws).run st ∧ ∀ st' m', Up st st' → Rel cx st' m' a w → ∃ m1, Rel cx (putAll st' ws) m1 a w ∧ Up st (putAll st' ws) ∧
      (∀ k, (∃ x, lk st'.lb k = some (.shared x)) → ∃ x, lk (putAll st' ws).lb k = some (.shared x)) ∧
      (∀ k ∈ labsOf l, ∃ x, lk (putAll st' ws).lb k = some (.shared x))) ∨
    (shareLabs l f).run st = ⟨False, default, []⟩ := by
  induction l generalizing f with
  | nil => exact .inl ⟨[], rfl, fun st' m' hu R => ⟨m', R, hu, fun k h => h, fun k hk => by simp [labsOf] at hk⟩⟩
  | cons x r ih =>
    have other : (∀ k, x ≠ .own k) → labsOf (x :: r) = labsOf r ∧ (shareLabs (x :: r) f) = shareLabs r f := by
      intro h
      cases x <;> first | exact ⟨rfl, rfl⟩ | exact absurd rfl (h _)
    by_cases hx : ∃ k, x = .own k
    · obtain ⟨k, rfl⟩ := hx
      simp only [shareLabs, Rd.run]
      have hl : labsOf (.own k :: r) = k :: labsOf r := rfl
      split
      · rename_i y hk
        rcases ih (fun ws => f (.lab k (.shared y) :: ws)) with ⟨ws, h1, h2⟩ | h
        · refine .inl ⟨.lab k (.shared y) :: ws, h1, fun st' m' hu R => ?_⟩
          have hu' : Up st ((Wr.lab k (.shared y)).put st') := ⟨hu.1, fun k' => by
            by_cases e : k' = k
            · subst e; exact .inr ⟨y, hk, lk_same _ _ _⟩
            · simp only [Wr.put]; rw [lk_other e]; exact hu.2 k'⟩
          have R' : ∃ m2, Rel cx ((Wr.lab k (.shared y)).put st') m2 a w := by
            rcases hu.2 k with e | ⟨z, e1, e2⟩
            · exact ⟨_, R.share (e.trans hk)⟩
            · rw [hk] at e1
              obtain ⟨⟩ := Option.some.inj e1
              refine ⟨m', R.alike (fun _ => rfl) (fun _ => rfl) (fun k' => ?_)⟩
              by_cases e : k' = k
              · subst e; rw [lk_same, e2]
              · rw [lk_other e]
          obtain ⟨m2, R2⟩ := R'
          obtain ⟨m1, g1, g2, g3, g4⟩ := h2 _ m2 hu' R2
          refine ⟨m1, g1, g2, fun k' hk' => g3 k' ?_, fun k' hk' => ?_⟩
          · by_cases e : k' = k
            · subst e; exact ⟨y, lk_same _ _ _⟩
            · simp only [Wr.put]; rw [lk_other e]; exact hk'
          · rw [hl] at hk'
            rcases List.mem_cons.1 hk' with rfl | hk'
            · exact g3 _ ⟨y, lk_same _ _ _⟩
            · exact g4 k' hk'
        · exact .inr h
      · rename_i y hk
        rcases ih f with ⟨ws, h1, h2⟩ | h
        · refine .inl ⟨ws, h1, fun st' m' hu R => ?_⟩
          obtain ⟨m1, g1, g2, g3, g4⟩ := h2 st' m' hu R
          refine ⟨m1, g1, g2, g3, fun k' hk' => ?_⟩
          rw [hl] at hk'
          rcases List.mem_cons.1 hk' with rfl | hk'
          · refine g3 _ ?_
            rcases hu.2 k' with e | ⟨z, e1, e2⟩
            · exact ⟨y, e.trans hk⟩
            · exact ⟨z, e2⟩
          · exact g4 k' hk'
        · exact .inr h
      · exact .inr rfl
    · obtain ⟨e1, e2⟩ := other (fun k e => hx ⟨k, e⟩)
      rw [e1, e2]
      exact ih f

theorem run_shareLabs (R : Rel cx st m a w) (l : List AC) (f : List Wr → Rd Out) :
    (∃ ws m1, (shareLabs l f).run st = (f ws).run st ∧ Rel cx (putAll st ws) m1 a w ∧ Up st (putAll st ws) ∧ ∀ k ∈ labsOf l, ∃ x, lk (putAll st ws).lb k = some (.shared x)) ∨
    (shareLabs l f).run st = ⟨False, default, []⟩ := by
  rcases run_shareLabs' (cx := cx) (a := a) (w := w) (st := st) l f with ⟨ws, h1, h2⟩ | h
  · obtain ⟨m1, g1, g2, _, g4⟩ := h2 st m ⟨rfl, fun _ => .inl rfl⟩ R
    exact .inl ⟨ws, m1, h1, g1, g2, g4⟩
  · exact .inr h

theorem Up.none {st st' : St} (h : Up st st') {k : Nat} (hk : lk st.lb k = none) : lk st'.lb k = none := by
  rcases h.2 k with e | ⟨x, e, _⟩
  · exact e.trans hk
  · rw [hk] at e; cases e
theorem Up.dof {st st' : St} (h : Up st st') {x : AC} {d : D} (hd : DOf (lk st.lb) x d) : DOf (lk st'.lb) x d := by
  cases x with
  | own k =>
    rcases h.2 k with e | ⟨y, e1, e2⟩
    · simpa only [DOf, e] using hd
    · rcases hd with hd | hd
      · rw [e1] at hd; obtain ⟨⟩ := Option.some.inj hd; exact .inr e2
      · rw [e1] at hd; cases hd
  | _ => exact hd
theorem valOf_put (st : St) (ws : List Wr) (x : Operand) : valOf (putAll st ws) x = valOf st x := by cases x <;> simp [valOf, putAll_sl]
theorem valsOf_put (st : St) (ws : List Wr) (l : List Operand) : valsOf (putAll st ws) l = valsOf st l := by induction l <;> simp_all [valsOf, valOf_put]

/-- data of a cell whose label, if it bears one, is shared -/
theorem Rel.dof_shared (R : Rel cx st m a w) {x : AC} {d : D} {v : Value} (hd : DOf (lk st.lb) x d) (hs : ∀ k ∈ labsOf [x], ∃ y, lk st.lb k = some (.shared y)) (hx : RCl cx m w (lk st.lb) x v) : RD w (Sof cx m) d v := by
  cases x with
  | d y => obtain rfl := hd; exact hx
  | nils => obtain rfl := hd; obtain rfl := hx; exact .sl0 _ _ _ _
  | own k =>
    obtain ⟨y, hy⟩ := hs k (by simp [labsOf])
    simp only [RCl, hy] at hx
    rcases hd with hd | hd
    · rw [hy] at hd; cases hd
    · rw [hy] at hd; obtain ⟨⟩ := Option.some.inj hd; exact hx.2
  | _ => exact hd.elim

theorem good_newSl {ws : List Wr} (R1 : Rel cx (putAll st ws) m1 a w) (hnew : ∀ k, lk st.lb k = none → lk (putAll st ws).lb k = none) {lin : Bool} {nm : Nat} {p : Prop} {x : D} {c : Array Value} {T cap : Nat}
    (hrun : p → (execOp a.eval o).run P w = .ok (.value (.slice (some ⟨w.heap.size, 0, none⟩) x.len cap)) w') (he : SameEnv w w') (hh : w'.heap = w.heap.push (.cells c T (0, 0)))
    (hx : x.isSl = true) (hsz : p → c.size = cap * x.stride ∧ x.len ≤ cap)
    (hrow : p → ∀ i, i < x.len → (x.nth i).length = x.stride ∧ ∀ j, j < x.stride → ∃ u, c[i * x.stride + j]? = some u ∧ RD w (Sof cx m1) ((x.nth i).getD j .undef) u)
    (hobl : ((newSl lin nm p x ws).run st).obl) : Good P cx st a w o ((newSl lin nm p x ws).run st) := by
  have hB : w'.heap[w.heap.size]? = some (.cells c T (0, 0)) := by rw [hh]; simp
  have hold : ∀ B, B < w.heap.size → w'.heap[B]? = w.heap[B]? := fun B hB => by rw [hh, Array.getElem?_push, if_neg (by omega)]
  have hs : w.heap.size ≤ w'.heap.size := by rw [hh]; simp
  have hext : Ext w w' (Sof cx m1) (fun B' => Sof cx m1 B' ∧ B' ≠ w.heap.size) := ⟨hs, fun B' h _ => hold B' h, fun B' h hS => ⟨hS, by omega⟩⟩
  have hrow' : p → Row w' (fun B' => Sof cx m1 B' ∧ B' ≠ w.heap.size) w.heap.size x := fun hp => ⟨c, T, hB, hx, fun i hi => ⟨(hrow hp i hi).1, fun j hj => by
    obtain ⟨u, hu, hr⟩ := (hrow hp i hi).2 j hj
    exact ⟨u, hu, hr.ext hext⟩⟩⟩
  revert hobl
  unfold newSl
  cases lin with
  | true =>
    simp only [if_true]
    rcases run_newLab st nm (fun k => .ret ⟨p, .c (.own k), ws ++ [.lab k (.owned x)]⟩) with ⟨k, hk, h⟩ | h
    · rw [h]
      intro hp
      simp only [Rd.run] at hp ⊢
      have hput : putAll st (ws ++ [.lab k (.owned x)]) = ⟨(putAll st ws).sl, (putAll st ws).bx, (k, .owned x) :: (putAll st ws).lb⟩ := by rw [putAll_append]; rfl
      have R2 := R1.newLab (hnew k hk) (x := x) hs hold (B := w.heap.size) (Nat.le_refl _) (by rw [hh]; simp) hx he (hrow' hp)
      refine Good.val (hrun hp) (by rw [hput]; exact R2) ?_
      rw [hput]
      simp only [RA, RU, RCl, lk_same, upd_same, Hdl]
      exact ⟨cap, c, T, rfl, hB, (hsz hp).1, (hsz hp).2⟩
    · rw [h]; exact fun hp => hp.elim
  | false =>
    simp only [Bool.false_eq_true, if_false]
    cases ws with
    | nil =>
      intro hp
      simp only [Rd.run] at hp ⊢
      refine Good.val (m' := m1) (hrun hp) (R1.grow he hs hold) ?_
      have hS : Sof cx m1 w.heap.size := ⟨.inr R1.size, fun k h => by have := R1.ownb k _ h; omega, fun b h => by have := R1.boxb b _ h; omega⟩
      exact row_rd ((hrow' hp).ext ⟨Nat.le_refl _, fun _ _ _ => rfl, fun _ _ h => h.1⟩ rfl) hS (by rw [hh]; simp) (hsz hp).2
    | cons x r => exact fun hp => hp.elim

theorem good_makeSlice (hty : TyOk P ty) (R : Rel cx st m a w) {lin : Bool} {nm t : Nat} {x y : Operand} (ho : o.op = .makeSlice t x y) (hobl : ((evMakeSlice ty lin nm t (valOf st x) (valOf st y)).run st).obl) :
    Good P cx st a w o ((evMakeSlice ty lin nm t (valOf st x) (valOf st y)).run st) := by
  have hx := R.val x
  have hy := R.val y
  generalize valOf st x = ax at *
  generalize valOf st y = ay at *
  revert hobl
  unfold evMakeSlice
  split
  · rename_i sz by' ag ze e en kl l kc c hi
    have hx' := rd_int hx
    have hy' := rd_int hy
    split
    · rename_i i he
      have hE := hty e i he
      obtain ⟨info, z, h1, h2, h3, h4, h5⟩ := hE.info
      split
      · rename_i ds hds
        intro hobl
        obtain ⟨p1, p2⟩ := plainDs_get hds
        have hzs : z.cells.size = i.size := by rw [← Array.length_toList, h5, hE.zlen]
        refine good_newSl (m1 := m) (ws := []) R (fun _ h => h) (w' := w.alloc (.cells (madeCells z.cells (c.toNat * i.size)) e)) (c := madeCells z.cells (c.toNat * i.size)) (T := e) (cap := c.toNat)
          (fun hp => ?_) ⟨rfl, rfl, rfl⟩ rfl rfl (fun hp => ?_) (fun hp q hq => ?_) hobl
        · have := run_make (P := P) w t e info z (hty t _ hi).und h1 h4 kl kc l c hp.1.1 hp.1.2.1 (by rw [h3]; exact hp.1.2.2.2) hp.1.2.2.1
          rw [h2] at this
          simp [execOp, ho, hx', hy', this, D.rep, D.len]
        · simp only [D.rep, D.stride, D.len, size_madeCells]
          exact ⟨trivial, by omega⟩
        · simp only [D.rep, D.stride, D.nth, D.len] at *
          refine ⟨by rw [p1]; simp [hE.zlen], fun j hj => ?_⟩
          have hlt : q * i.size + j < c.toNat * i.size := by
            have : (q + 1) * i.size ≤ c.toNat * i.size := Nat.mul_le_mul_right _ (by omega)
            rw [Nat.add_mul] at this; omega
          refine ⟨z.cells[j]'(by omega), ?_, ?_⟩
          · have hmod : (q * i.size + j) % i.size = j := by rw [Nat.mul_comm, Nat.mul_add_mod]; exact Nat.mod_eq_of_lt hj
            have hbang : z.cells[j]! = z.cells[j]'(by omega) := getElem!_pos z.cells j (by omega)
            simp [madeCells, hlt, hzs, hmod, hbang]
          · have hpj := p2 j (by simp [hE.zlen, hj])
            have hz : i.zero[j]? = some (z.cells[j]'(by omega)) := by rw [← h5]; simp [hzs, hj]
            have : (i.zero.map zAC).getD j .undef = zAC (z.cells[j]'(by omega)) := by simp [List.getD_eq_getElem?_getD, hz]
            rw [this] at hpj
            exact rcl_plain (cx := cx) (m := m) (w := w) (lb := lk st.lb) hpj (rcl_zAC _ _)
      · exact bad_elim
    · exact bad_elim
  · exact bad_elim

end
end Go.Abs

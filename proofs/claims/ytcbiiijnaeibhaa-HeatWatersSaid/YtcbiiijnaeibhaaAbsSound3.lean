/-
  Soundness, third part: stores, addresses, fields, indexes.
-/
import Derived.Test.YtcbiiijnaeibhaaAbsSound2
set_option linter.unusedVariables false
set_option linter.unusedSimpArgs false
namespace Go.Abs

theorem splice_getElem? {α : Type} (l : List α) (o : Nat) (ys : List α) (h : o + ys.length ≤ l.length) (j : Nat) :
    (splice l o ys)[j]? = if o ≤ j ∧ j < o + ys.length then ys[j - o]? else l[j]? := by
  unfold splice
  by_cases h1 : j < o
  · rw [if_neg (by omega), List.append_assoc, List.getElem?_append_left (by simp; omega), List.getElem?_take, if_pos h1]
  · by_cases h2 : j < o + ys.length
    · rw [if_pos (by omega), List.append_assoc, List.getElem?_append_right (by simp; omega), List.getElem?_append_left (by simp; omega)]
      congr 1; simp; omega
    · rw [if_neg (by omega), List.getElem?_append_right (by simp; omega), List.getElem?_drop]
      congr 1; simp; omega
theorem splice_length {α : Type} (l : List α) (o : Nat) (ys : List α) (h : o + ys.length ≤ l.length) : (splice l o ys).length = l.length := by
  simp [splice]; omega

/-- A run of stores into a block. -/
structure Stored (w w' : World) (B : Nat) (c c' : Array Value) (T : TypeId) (o : Nat) (vs : List Value) : Prop where
  env : SameEnv w w'
  size : w'.heap.size = w.heap.size
  other : ∀ B', B' ≠ B → w'.heap[B']? = w.heap[B']?
  row : w'.heap[B]? = some (.cells c' T (0, 0))
  len : c'.size = c.size
  get : ∀ j, c'[j]? = if o ≤ j ∧ j < o + vs.length then vs[j - o]? else c[j]?

theorem run_storeCells {P : Program} (B o : Nat) (T : TypeId) (vs : List Value) : ∀ (w : World) (c : Array Value) (i : Nat), w.heap[B]? = some (.cells c T (0, 0)) → (∀ v ∈ vs, One v) → o + i + vs.length ≤ c.size →
    ∃ w' c', (storeCells ⟨B, o, none⟩ vs i).run P w = .ok () w' ∧ Stored w w' B c c' T (o + i) vs := by
  induction vs with
  | nil =>
    intro w c i hc _ _
    exact ⟨w, c, rfl, .refl _, rfl, fun _ _ => rfl, hc, rfl, fun j => by simp; omega⟩
  | cons v vs ih =>
    intro w c i hc hv hle
    simp only [List.length_cons] at hle
    have h1 : (store ((⟨B, o, none⟩ : Addr).add i) v).run P w = .ok () (w.setCell ⟨B, o + i, none⟩ v) := by
      rw [addr_add, run_store P w _ v _ (hv v (by simp)).2]
      have e1 : w.cell? ⟨B, o + i, none⟩ = some c[o + i] := by simp [World.cell?, hc]
      have e2 : w.frozen? ⟨B, o + i, none⟩ = false := by simp [World.frozen?, hc]
      simp [e1, e2]
    have hh : (w.setCell ⟨B, o + i, none⟩ v).heap[B]? = some (.cells (c.setIfInBounds (o + i) v) T (0, 0)) := by
      simp [World.setCell, Array.getElem?_modify, hc]
    obtain ⟨w', c', hr, s⟩ := ih (w.setCell ⟨B, o + i, none⟩ v) (c.setIfInBounds (o + i) v) (i + 1) hh (fun u hu => hv u (by simp [hu])) (by simp; omega)
    refine ⟨w', c', ?_, ⟨?_, ?_, fun B' hB' => ?_, s.row, ?_, fun j => ?_⟩⟩
    · simp only [storeCells, Sem.run_bind, h1, Result.andThen_ok, hr]
    · exact SameEnv.trans ⟨rfl, rfl, rfl⟩ s.env
    · rw [s.size]; simp [World.setCell]
    · rw [s.other B' hB']; simp [World.setCell, Array.getElem?_modify, Ne.symm hB']
    · rw [s.len]; simp
    · rw [s.get j]
      simp only [List.length_cons]
      by_cases hj : j = o + i
      · subst hj
        rw [if_neg (by omega), if_pos (by omega)]
        simp [show o + i < c.size by omega]
      · by_cases h2 : o + (i + 1) ≤ j ∧ j < o + (i + 1) + vs.length
        · rw [if_pos h2, if_pos (by omega), show j - (o + i) = (j - (o + (i + 1))) + 1 by omega, List.getElem?_cons_succ]
        · rw [if_neg h2, if_neg (by omega), Array.getElem?_setIfInBounds_ne (by omega)]

section
variable {P : Program} {ty : Tys} {cx : Cx} {st : St} {m m' : Mp} {a : Act} {w w' : World} {o : Oper} {out : Out}

theorem ru_one {lb : Nat → Option Lab} {x : AU} {v : Value} (hs : x.solid = true) (h : RU cx m w lb x v) : ∀ u ∈ v.cells.toList, One u := by
  intro u hu
  obtain ⟨j, hj, rfl⟩ := List.getElem_of_mem hu
  simp only [Array.length_toList] at hj
  obtain ⟨h1, h2⟩ := ru_cells hs h
  obtain ⟨u, hu2, hr⟩ := h2 j (by omega)
  have e : v.cells.toList[j] = u := by simpa [hj] using hu2
  rw [e]
  refine rcl_one ?_ hr
  cases x with
  | c x =>
    simp only [AU.cells, List.length_singleton] at h1
    obtain rfl : j = 0 := by omega
    exact hs
  | agg l =>
    simp only [AU.cells] at *
    simp only [AU.solid, List.all_eq_true] at hs
    rw [List.getD_eq_getElem?_getD, List.getElem?_eq_getElem (by omega)]
    exact hs _ (List.getElem_mem _)

theorem good_store_run {t : Nat} {i : TI} {x y : Operand} (hty : TyFact P t i) (ho : o.op = .store t x y) {B off : Nat} {T : TypeId} {c : Array Value} (hp : a.eval x = .pointer (some ⟨B, off, none⟩))
    (hc : w.heap[B]? = some (.cells c T (0, 0))) (hsz : (a.eval y).cells.size = i.size) (hone : ∀ v ∈ (a.eval y).cells.toList, One v) (hle : off + i.size ≤ c.size) :
    ∃ w' c', (execOp a.eval o).run P w = .ok .skip w' ∧ Stored w w' B c c' T off (a.eval y).cells.toList := by
  obtain ⟨w', c', hr, s⟩ := run_storeCells (P := P) B off T (a.eval y).cells.toList w c 0 hc hone (by simp; omega)
  refine ⟨w', c', ?_, by simpa using s⟩
  have h1 : (storeVar t ⟨B, off, none⟩ (a.eval y)).run P w = .ok () w' := by
    simp [storeVar, hty.size_run, hsz, hr]
  simp [execOp, ho, Instr.storeAt, Instr.sureAddr, hp, h1]

theorem rcl_plain {lb : Nat → Option Lab} {x : AC} {d : D} {v : Value} (h : plainD x = some d) (hx : RCl cx m w lb x v) : RD w (Sof cx m) d v := by
  cases x <;> simp [plainD] at h
  · subst h; exact hx
  · subst h; obtain rfl := hx; exact .sl0 _ _ _ _
theorem plainDs_get {l : List AC} {ds : List D} (h : plainDs l = some ds) : ds.length = l.length ∧ ∀ j, j < l.length → plainD (l.getD j .undef) = some (ds.getD j .undef) := by
  induction l generalizing ds with
  | nil => simp [plainDs] at h; subst h; simp
  | cons x r ih =>
    simp only [plainDs] at h
    split at h
    · rename_i d ds' h1 h2
      obtain rfl := Option.some.inj h
      obtain ⟨e1, e2⟩ := ih h2
      refine ⟨by simp [e1], fun j hj => ?_⟩
      cases j with
      | zero => simpa using h1
      | succ j => simpa using e2 j (by simpa using hj)
    · cases h

theorem D.setAt_len (x : D) (i o : Nat) (c : List D) : (x.setAt i o c).len = x.len := rfl
theorem D.setAt_stride (x : D) (i o : Nat) (c : List D) : (x.setAt i o c).stride = x.stride := rfl

theorem good_store (hty : TyOk P ty) (R : Rel cx st m a w) {t : Nat} {x y : Operand} (ho : o.op = .store t x y) (hobl : ((evStore ty t (valOf st x) (valOf st y)).run st).obl) :
    Good P cx st a w o ((evStore ty t (valOf st x) (valOf st y)).run st) := by
  have hx := R.val x
  have hy := R.val y
  generalize valOf st x = ax at *
  generalize valOf st y = ay at *
  revert hobl
  unfold evStore
  split
  · rename_i i v hi
    split
    · rename_i b off
      simp only [Rd.run]
      split
      · rename_i cs hb
        intro hobl
        simp only [Rd.run] at hobl ⊢
        obtain ⟨e1, e2, e3⟩ := hobl
        obtain ⟨B, hB, hp⟩ := hx
        obtain ⟨B', c, T, h1, h2, h3, h4⟩ := R.boxes b cs hb
        obtain rfl : B = B' := Option.some.inj (hB.symm.trans h1)
        obtain ⟨g1, g2⟩ := ru_cells e2 hy
        obtain ⟨w', c', hr, s⟩ := good_store_run (hty t i hi) ho hp h2 (by rw [g1, e1]) (ru_one e2 hy) (by rw [h3]; omega)
        have hlen : (a.eval y).cells.toList.length = v.cells.length := by simpa using g1
        refine Good.skip (m' := m) hr ?_ rfl
        refine R.turnBox hB s.env s.size s.other s.row (by rw [s.len, h3, splice_length _ _ _ e3]) (fun j hj => ?_)
        rw [splice_length _ _ _ e3] at hj
        rw [s.get j, List.getD_eq_getElem?_getD, splice_getElem? _ _ _ e3, hlen]
        by_cases hin : off ≤ j ∧ j < off + v.cells.length
        · rw [if_pos hin, if_pos hin]
          obtain ⟨u, hu, hr⟩ := g2 (j - off) (by omega)
          refine ⟨u, by simpa using hu, ?_⟩
          rw [← List.getD_eq_getElem?_getD]; exact hr
        · rw [if_neg hin, if_neg hin, ← List.getD_eq_getElem?_getD]
          exact h4 j hj
      · exact bad_elim
    · rename_i k j off
      simp only [Rd.run]
      split
      · rename_i z hl
        split
        · rename_i ds hds
          intro hobl
          simp only [Rd.run] at hobl ⊢
          obtain ⟨e1, e2, e3⟩ := hobl
          simp only [RA, RU, RCl, hl] at hx
          obtain ⟨hj, B, hB, hp⟩ := hx
          obtain ⟨hsl, hrow⟩ := R.owned k z hl
          obtain ⟨c, T, hc, _, hz⟩ := hrow B hB
          obtain ⟨g1, g2⟩ := ru_cells e2 hy
          obtain ⟨p1, p2⟩ := plainDs_get hds
          have hcsz : j * z.stride + z.stride ≤ c.size := by
            by_cases h0 : z.stride = 0
            · simp only [h0, Nat.le_zero, Nat.add_eq_zero_iff] at e3
              have : v.cells.length = 0 := e3.2
              cases v with
              | c x => simp [AU.cells] at this
              | agg l => simp only [h0]; omega
            · obtain ⟨u, hu, _⟩ := (hz j hj).2 (z.stride - 1) (by omega)
              have := (Array.getElem?_eq_some_iff.1 hu).1
              omega
          obtain ⟨w', c', hr, s⟩ := good_store_run (hty t i hi) ho hp hc (by rw [g1, e1]) (ru_one e2 hy) (by omega)
          have hlen : (a.eval y).cells.toList.length = v.cells.length := by simpa using g1
          refine Good.skip (m' := m) hr ?_ rfl
          have hS : ∀ B', B' < w.heap.size → Sof cx m B' → B' ≠ B := fun B' _ h e => by subst e; exact h.2.1 k hB
          have hext : Ext w w' (Sof cx m) (Sof cx m) := ⟨by rw [s.size]; exact Nat.le_refl _, fun B' h1 h2 => s.other B' (hS B' h1 h2), fun _ _ h => h⟩
          refine R.turnOwn hB hl (x' := z.setAt j off ds) rfl rfl rfl s.env s.size s.other (fun c2 T2 h2 => ?_) ?_
          · rw [hc] at h2
            obtain ⟨rfl, rfl⟩ := by simpa using h2
            exact ⟨c', s.row, s.len⟩
          · refine ⟨c', T, s.row, rfl, fun q hq => ?_⟩
            have hq' : q < z.len := hq
            have hz' := hz q hq'
            simp only [D.setAt_stride]
            have enth : (z.setAt j off ds).nth q = if q = j then splice (z.nth j) off ds else z.nth q := rfl
            rw [enth]
            have e3' : off + ds.length ≤ (z.nth j).length := by rw [p1, (hz j hj).1]; exact e3
            by_cases hqj : q = j
            · subst hqj
              rw [if_pos rfl]
              refine ⟨by rw [splice_length _ _ _ e3', (hz q hq').1], fun r hr => ?_⟩
              rw [s.get, List.getD_eq_getElem?_getD, splice_getElem? _ _ _ e3', hlen, p1]
              by_cases hin : off ≤ r ∧ r < off + v.cells.length
              · rw [if_pos (by omega), if_pos hin]
                obtain ⟨u, hu, hr2⟩ := g2 (r - off) (by omega)
                refine ⟨u, by simpa [show q * z.stride + r - (q * z.stride + off) = r - off by omega] using hu, ?_⟩
                have := rcl_plain (p2 (r - off) (by omega)) hr2
                rw [← List.getD_eq_getElem?_getD]; exact this.ext hext
              · rw [if_neg (by omega), if_neg hin, ← List.getD_eq_getElem?_getD]
                obtain ⟨u, hu, hd⟩ := hz'.2 r hr
                exact ⟨u, hu, hd.ext hext⟩
            · rw [if_neg hqj]
              refine ⟨hz'.1, fun r hr => ?_⟩
              obtain ⟨u, hu, hd⟩ := hz'.2 r hr
              refine ⟨u, ?_, hd.ext hext⟩
              rw [s.get, hlen, if_neg, hu]
              intro hin
              rcases Nat.lt_or_gt_of_ne hqj with hlt | hgt
              · have : (q + 1) * z.stride ≤ j * z.stride := Nat.mul_le_mul_right _ hlt
                rw [Nat.add_mul] at this; omega
              · have : (j + 1) * z.stride ≤ q * z.stride := Nat.mul_le_mul_right _ hgt
                rw [Nat.add_mul] at this; omega
        · exact bad_elim
      · exact bad_elim
    · exact bad_elim
  · exact bad_elim

theorem fieldOff_fact (hty : TyOk P ty) {s f o' : Nat} {i : TI} (h : fieldOff ty s f = some (o', i)) :
    ∃ fs fd, P.underlying s = some (.struct fs) ∧ fs[f]? = some fd ∧ fd.offset = o' ∧ TyFact P fd.type i ∧ i.size ≠ 0 := by
  unfold fieldOff at h
  split at h
  · rename_i sz by' ag ze fs en hs
    have hS := hty _ _ hs
    split at h
    · rename_i fd hfd
      split at h
      · rename_i i' hi'
        split at h
        · cases h
        · rename_i hne
          obtain ⟨rfl, rfl⟩ := by simpa using h
          exact ⟨fs, fd, hS.und, by simpa using hfd, rfl, hty _ _ hi', hne⟩
      · cases h
    · cases h
  · cases h

theorem good_fieldAddr (hty : TyOk P ty) (R : Rel cx st m a w) {s f : Nat} {x : Operand} (ho : o.op = .fieldAddr s x f) (hobl : ((evFieldAddr ty s f (valOf st x)).run st).obl) :
    Good P cx st a w o ((evFieldAddr ty s f (valOf st x)).run st) := by
  have hx := R.val x
  generalize valOf st x = av at *
  revert hobl
  unfold evFieldAddr
  have key : ∀ {o' : Nat} {i : TI} {B q : Nat}, fieldOff ty s f = some (o', i) → a.eval x = .pointer (some ⟨B, q, none⟩) → (execOp a.eval o).run P w = .ok (.value (.pointer (some ⟨B, q + o', none⟩))) w := by
    intro o' i B q h hp
    obtain ⟨fs, fd, h1, h2, rfl, h4, h5⟩ := fieldOff_fact hty h
    simp [execOp, ho, Instr.fieldAt, run_underlying h1, h2, Instr.sureAddr, hp, fieldPlace, h4.size_run, h5, addr_add]
  split
  · rename_i o' i b off h
    intro _
    obtain ⟨B, hB, hp⟩ := hx
    exact good_okv R (key h hp) ⟨B, hB, rfl⟩
  · rename_i o' i k j off h
    simp only [RA, RU, RCl] at hx
    simp only [Rd.run]
    split
    · rename_i y hl
      intro _
      simp only [hl] at hx
      obtain ⟨hj, B, hB, hp⟩ := hx
      refine good_okv R (key h hp) ?_
      simp only [RA, RU, RCl, hl]
      exact ⟨hj, B, hB, by rw [Nat.add_assoc]⟩
    · rename_i y hl
      intro _
      simp only [hl] at hx
      obtain ⟨hj, hlen, B, o2, hp, hB, hS, hc⟩ := hx
      refine good_okv R (key h hp) ?_
      simp only [RA, RU, RCl, hl]
      exact ⟨hj, hlen, B, o2, by rw [Nat.add_assoc], hB, hS, hc⟩
    · exact bad_elim
  · rename_i o' i l off h
    intro _
    obtain ⟨B, o2, hp, hB, hS, hc⟩ := hx
    exact good_okv R (key h hp) ⟨B, o2, by rw [Nat.add_assoc], hB, hS, hc⟩
  · exact bad_elim

end
end Go.Abs

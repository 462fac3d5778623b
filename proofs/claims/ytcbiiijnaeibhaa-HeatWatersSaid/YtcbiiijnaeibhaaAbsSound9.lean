/-
  Soundness, ninth part: append.
-/
import Derived.Test.YtcbiiijnaeibhaaAbsSound8
set_option linter.unusedVariables false
set_option linter.unusedSimpArgs false
namespace Go.Abs
section
variable {P : Program} {ty : Tys} {cx : Cx} {st : St} {m m1 m' : Mp} {a : Act} {w w' : World} {o : Oper} {out : Out}

/-- the elements of a slice, owned or not -/
theorem Rel.elems (R : Rel cx st m a w) {y : AC} {d : D} {v : Value} (hd : DOf (lk st.lb) y d) (hx : RCl cx m w (lk st.lb) y v) (hs : d.isSl = true) :
    ∃ ao cap, v = .slice ao d.len cap ∧ (d.len = 0 ∨ ∃ B q, ao = some ⟨B, q, none⟩ ∧ ∀ i, i < d.len → (d.nth i).length = d.stride ∧ ∀ j, j < d.stride → ∃ u, w.cell? ⟨B, q + (i * d.stride + j), none⟩ = some u ∧ RD w (Sof cx m) ((d.nth i).getD j .undef) u) := by
  have hrd : ∀ {x : D}, x.isSl = true → RD w (Sof cx m) x v → ∃ ao cap, v = .slice ao x.len cap ∧ (x.len = 0 ∨ ∃ B q, ao = some ⟨B, q, none⟩ ∧ ∀ i, i < x.len → (x.nth i).length = x.stride ∧ ∀ j, j < x.stride → ∃ u, w.cell? ⟨B, q + (i * x.stride + j), none⟩ = some u ∧ RD w (Sof cx m) ((x.nth i).getD j .undef) u) := by
    intro x hs h
    cases h with
    | sl0 s g ao cap => exact ⟨ao, cap, rfl, .inl rfl⟩
    | sl s n g B q cap f hn hcap hB hS hl hc hr => exact ⟨_, cap, rfl, .inr ⟨B, q, rfl, fun i hi => ⟨hl i hi, fun j hj => ⟨f i j, hc i j hi hj, hr i j hi hj⟩⟩⟩⟩
    | _ => simp [D.isSl] at hs
  cases y with
  | d y => obtain rfl := hd; exact hrd hs hx
  | nils => obtain rfl := hd; obtain rfl := hx; exact ⟨none, 0, rfl, .inl rfl⟩
  | own k =>
    simp only [RCl] at hx
    rcases hd with hd | hd
    · simp only [hd] at hx
      obtain ⟨hs, hrow⟩ := R.owned k d hd
      cases hB : m.own k with
      | none =>
        simp only [hB, Hdl] at hx
        obtain ⟨rfl, hn⟩ := hx
        exact ⟨none, 0, by rw [hn], .inl hn⟩
      | some B =>
        simp only [hB, Hdl] at hx
        obtain ⟨cap, c, T, rfl, hc, _, _⟩ := hx
        obtain ⟨c', T', hc', _, hr⟩ := hrow B hB
        refine ⟨_, cap, rfl, .inr ⟨B, 0, rfl, fun i hi => ⟨(hr i hi).1, fun j hj => ?_⟩⟩⟩
        obtain ⟨u, hu, hd⟩ := (hr i hi).2 j hj
        exact ⟨u, by simp [World.cell?, hc', hu], hd⟩
    · simp only [hd] at hx
      exact hrd hx.1 hx.2
  | _ => exact hd.elim

theorem run_first {d : D} {v : Value} {ao : Option Addr} {cap size : Nat} {S : Nat → Prop} (hv : v = .slice ao d.len cap) (hst : d.len ≠ 0 → d.stride = size)
    (he : d.len = 0 ∨ ∃ B q, ao = some ⟨B, q, none⟩ ∧ ∀ i, i < d.len → (d.nth i).length = d.stride ∧ ∀ j, j < d.stride → ∃ u, w.cell? ⟨B, q + (i * d.stride + j), none⟩ = some u ∧ RD w S ((d.nth i).getD j .undef) u) :
    ∃ ns : List Value, ns.length = d.len * size ∧ (∀ w2 : World, w2.heap = w.heap → (Builtin.firstCells size d.len v).run P w2 = .ok ns.toArray w2) ∧ (∀ u ∈ ns, One u) ∧
      ∀ i, i < d.len → (d.nth i).length = size ∧ ∀ j, j < size → ∃ u, ns[i * size + j]? = some u ∧ RD w S ((d.nth i).getD j .undef) u := by
  by_cases h0 : d.len = 0
  · refine ⟨[], by simp [h0], fun w2 _ => ?_, by simp, fun i hi => by omega⟩
    rw [hv, h0]
    cases ao with
    | none => exact run_firstCells_none (P := P) w2 size 0 0 cap
    | some b => simp [Builtin.firstCells, loadCells, loadCellsFrom]
  · rcases he with he | ⟨B, q, rfl, he⟩
    · exact absurd he h0
    have hst' := hst h0
    subst hst'
    have hcell : ∀ r, r < d.len * d.stride → ∃ u, w.cell? ⟨B, q + r, none⟩ = some u ∧ One u := by
      intro r hr
      have hpos : 0 < d.stride := by
        rcases Nat.eq_zero_or_pos d.stride with h | h
        · rw [h] at hr; simp at hr
        · exact h
      have h1 : r / d.stride < d.len := by rw [Nat.div_lt_iff_lt_mul hpos]; exact hr
      obtain ⟨u, hu, hd⟩ := (he (r / d.stride) h1).2 (r % d.stride) (Nat.mod_lt _ hpos)
      rw [Nat.mul_comm, Nat.div_add_mod] at hu
      exact ⟨u, hu, hd.one⟩
    have hns : ∀ r, r < d.len * d.stride → ((List.range (d.len * d.stride)).map fun r => (w.cell? ⟨B, q + r, none⟩).getD undef)[r]? = w.cell? ⟨B, q + r, none⟩ := by
      intro r hr
      obtain ⟨u, hu, _⟩ := hcell r hr
      simp [hr, hu]
    refine ⟨(List.range (d.len * d.stride)).map fun r => (w.cell? ⟨B, q + r, none⟩).getD undef, by simp, fun w2 hw2 => ?_, fun u hu => ?_, fun i hi => ⟨(he i hi).1, fun j hj => ?_⟩⟩
    · rw [hv]
      refine run_firstCells_some (P := P) w2 d.stride d.len ⟨B, q, none⟩ d.len cap _ (by simp) (fun r u hu => ?_)
      have hr : r < d.len * d.stride := by
        have := (List.getElem?_eq_some_iff.1 hu).1
        simpa using this
      rw [hns r hr] at hu
      rw [addr_add]
      simpa [World.cell?, hw2] using hu
    · simp only [List.mem_map, List.mem_range] at hu
      obtain ⟨r, hr, rfl⟩ := hu
      obtain ⟨u, hu, h1⟩ := hcell r hr
      simpa [hu] using h1
    · have hlt : i * d.stride + j < d.len * d.stride := by
        have : (i + 1) * d.stride ≤ d.len * d.stride := Nat.mul_le_mul_right _ hi
        rw [Nat.add_mul] at this; omega
      obtain ⟨u, hu, hd⟩ := (he i hi).2 j hj
      exact ⟨u, by rw [hns _ hlt]; exact hu, hd⟩

/-- APPEND, in the model: in place, or in a new block. -/
theorem run_append {t u e e' oty : Nat} {ie : TI} (ht : P.underlying t = some (.slice e)) (hu : P.underlying u = some (.slice e')) (hE : TyFact P e ie) {bo xo : Option Addr} {sl sc n xc : Nat} {ns olds : List Value}
    (hx : ∀ w2 : World, w2.heap = w.heap → (Builtin.firstCells ie.size n (.slice xo n xc)).run P w2 = .ok ns.toArray w2)
    (hs : ∀ w2 : World, w2.heap = w.heap → (Builtin.firstCells ie.size sl (.slice bo sl sc)).run P w2 = .ok olds.toArray w2)
    (hgrow : sc < sl + n) (h63 : sl + n ≤ 9223372036854775807) (hb : (sl + n) * ie.bytes ≤ 140737488355328) :
    ∃ (w' : World) (cap : Nat) (z : Value), sl + n ≤ cap ∧ z.cells.toList = ie.zero ∧ SameEnv w w' ∧ w'.heap = w.heap.push (.cells (olds.toArray ++ ns.toArray ++ Builtin.zeroCells z.cells (cap - (sl + n))) e (0, 0)) ∧
      (Builtin.append_ #[t, u] oty #[.slice bo sl sc, .slice xo n xc]).run P w = .ok (.slice (some ⟨w.heap.size, 0, none⟩) (sl + n) cap) w' := by
  obtain ⟨info, z, h1, h2, h3, h4, h5⟩ := hE.info
  have hn : ¬ (sl + n ≤ sc) := by omega
  have h63' : ¬ (9223372036854775807 < ((sl : Int) + (n : Int))) := by omega
  have hfit := growslice_fits (need := sl + n) (old := sc) (bytes := ie.bytes) hgrow hb
  have h48' : ¬ (281474976710656 < Builtin.nextslicecap (sl + n) sc * info.bytes) := by rw [h3]; omega
  have hf := hx w.drew rfl
  have hfo := hs w.drew rfl
  rw [← h2] at hf hfo
  refine ⟨w.drew.alloc (.cells (olds.toArray ++ ns.toArray ++ Builtin.zeroCells z.cells (grownCap w (sl + n) sc e - (sl + n))) e), grownCap w (sl + n) sc e, z, ?_, h5, ⟨rfl, rfl, rfl⟩, rfl, ?_⟩
  · simp [grownCap, Question.cut]
  · simp [Builtin.append_, run_underlying ht, run_underlying hu, sizeOf, typeInfo, zeroValue, h1, h4, Builtin.lenOf, hn, h63', h48', Question.forced, hf, hfo, newRow, grownCap]
    congr 2
    apply Array.ext'
    simp [List.append_assoc]

theorem run_append_in {t u e e' oty : Nat} {ie : TI} (ht : P.underlying t = some (.slice e)) (hu : P.underlying u = some (.slice e')) (hE : TyFact P e ie) {B : Nat} {xo : Option Addr} {sl sc n xc : Nat} {ns : List Value}
    (hx : ∀ w2 : World, w2.heap = w.heap → (Builtin.firstCells ie.size n (.slice xo n xc)).run P w2 = .ok ns.toArray w2)
    (hroom : sl + n ≤ sc) (hst : (storeCells ⟨B, sl * ie.size, none⟩ ns).run P w = .ok () w') :
    (Builtin.append_ #[t, u] oty #[.slice (some ⟨B, 0, none⟩) sl sc, .slice xo n xc]).run P w = .ok (.slice (some ⟨B, 0, none⟩) (sl + n) sc) w' := by
  obtain ⟨info, z, h1, h2, h3, h4, h5⟩ := hE.info
  have hf := hx w rfl
  rw [← h2] at hf hst
  simp [Builtin.append_, run_underlying ht, run_underlying hu, sizeOf, typeInfo, h1, Builtin.lenOf, hroom, hf, addr_add, hst]
theorem run_append_nil0 {t u e e' oty : Nat} {ie : TI} (ht : P.underlying t = some (.slice e)) (hu : P.underlying u = some (.slice e')) (hE : TyFact P e ie) {xo : Option Addr} {xc : Nat}
    (hx : ∀ w2 : World, w2.heap = w.heap → (Builtin.firstCells ie.size 0 (.slice xo 0 xc)).run P w2 = .ok #[] w2) :
    (Builtin.append_ #[t, u] oty #[.slice none 0 0, .slice xo 0 xc]).run P w = .ok (.slice none 0 0) w := by
  obtain ⟨info, z, h1, h2, h3, h4, h5⟩ := hE.info
  have hf := hx w rfl
  rw [← h2] at hf
  simp [Builtin.append_, run_underlying ht, run_underlying hu, sizeOf, typeInfo, h1, Builtin.lenOf, hf]

theorem D.cat_len (z d : D) : (D.cat z d).len = z.len + d.len := rfl
theorem D.cat_stride (z d : D) : (D.cat z d).stride = z.stride := rfl
theorem D.cat_nth (z d : D) (i : Nat) : (D.cat z d).nth i = if i < z.len then z.nth i else d.nth (i - z.len) := rfl
theorem D.cat_sl (z d : D) : (D.cat z d).isSl = true := rfl

theorem D.cat_row {S : Nat → Prop} {z d : D} {size : Nat} {f : Nat → Option Value} (hz : z.stride = size) (h1 : ∀ i, i < z.len → (z.nth i).length = size ∧ ∀ j, j < size → ∃ u, f (i * size + j) = some u ∧ RD w S ((z.nth i).getD j .undef) u)
    (h2 : ∀ i, i < d.len → (d.nth i).length = size ∧ ∀ j, j < size → ∃ u, f ((z.len + i) * size + j) = some u ∧ RD w S ((d.nth i).getD j .undef) u) :
    ∀ i, i < (D.cat z d).len → ((D.cat z d).nth i).length = (D.cat z d).stride ∧ ∀ j, j < (D.cat z d).stride → ∃ u, f (i * (D.cat z d).stride + j) = some u ∧ RD w S (((D.cat z d).nth i).getD j .undef) u := by
  intro i hi
  rw [D.cat_len] at hi
  rw [D.cat_nth, D.cat_stride, hz]
  by_cases h : i < z.len
  · rw [if_pos h]; exact h1 i h
  · rw [if_neg h]
    have := h2 (i - z.len) (by omega)
    rwa [show z.len + (i - z.len) = i by omega] at this

/-- the new slice, in a new block -/
theorem app_new (R : Rel cx st m a w) {k : Nat} (hk : lk st.lb k = none) {z d : D} {size e : Nat} {zc : Array Value} {olds ns : List Value} {cap : Nat} (hz : z.stride = size) (ho : olds.length = z.len * size) (hn : ns.length = d.len * size)
    (h1 : ∀ i, i < z.len → (z.nth i).length = size ∧ ∀ j, j < size → ∃ u, olds[i * size + j]? = some u ∧ RD w (Sof cx m) ((z.nth i).getD j .undef) u)
    (h2 : ∀ i, i < d.len → (d.nth i).length = size ∧ ∀ j, j < size → ∃ u, ns[i * size + j]? = some u ∧ RD w (Sof cx m) ((d.nth i).getD j .undef) u)
    (he : SameEnv w w') (hh : w'.heap = w.heap.push (.cells (olds.toArray ++ ns.toArray ++ Builtin.zeroCells zc (cap - (z.len + d.len))) e (0, 0))) (hzc : zc.size = size) (hcap : z.len + d.len ≤ cap) :
    ∃ m', Rel cx ⟨st.sl, st.bx, (k, .owned (D.cat z d)) :: st.lb⟩ m' a w' ∧ RCl cx m' w' (lk ((k, .owned (D.cat z d)) :: st.lb)) (.own k) (.slice (some ⟨w.heap.size, 0, none⟩) (z.len + d.len) cap) := by
  have hB : w'.heap[w.heap.size]? = some (.cells (olds.toArray ++ ns.toArray ++ Builtin.zeroCells zc (cap - (z.len + d.len))) e (0, 0)) := by rw [hh]; simp
  have hold : ∀ B, B < w.heap.size → w'.heap[B]? = w.heap[B]? := fun B hB => by rw [hh, Array.getElem?_push, if_neg (by omega)]
  have hs : w.heap.size ≤ w'.heap.size := by rw [hh]; simp
  have hext : Ext w w' (Sof cx m) (fun B' => Sof cx m B' ∧ B' ≠ w.heap.size) := ⟨hs, fun B' h _ => hold B' h, fun B' h hS => ⟨hS, by omega⟩⟩
  have hrow : Row w' (fun B' => Sof cx m B' ∧ B' ≠ w.heap.size) w.heap.size (D.cat z d) := by
    refine ⟨_, e, hB, D.cat_sl _ _, ?_⟩
    have := D.cat_row (w := w) (S := Sof cx m) (f := fun r => (olds.toArray ++ ns.toArray ++ Builtin.zeroCells zc (cap - (z.len + d.len)))[r]?) hz (fun i hi => ⟨(h1 i hi).1, fun j hj => by
        obtain ⟨u, hu, hr⟩ := (h1 i hi).2 j hj
        have hlt := (List.getElem?_eq_some_iff.1 hu).1
        exact ⟨u, by rw [Array.append_assoc, Array.getElem?_append_left (by simpa using hlt)]; simpa using hu, hr⟩⟩)
      (fun i hi => ⟨(h2 i hi).1, fun j hj => by
        obtain ⟨u, hu, hr⟩ := (h2 i hi).2 j hj
        have hlt := (List.getElem?_eq_some_iff.1 hu).1
        refine ⟨u, ?_, hr⟩
        have e1 : (z.len + i) * size + j = olds.length + (i * size + j) := by rw [ho, Nat.add_mul]; omega
        rw [e1, Array.append_assoc, Array.getElem?_append_right (by simp), Array.getElem?_append_left (by simp; omega)]
        simpa using hu⟩)
    intro i hi
    obtain ⟨g1, g2⟩ := this i hi
    exact ⟨g1, fun j hj => by
      obtain ⟨u, hu, hr⟩ := g2 j hj
      exact ⟨u, hu, hr.ext hext⟩⟩
  refine ⟨_, R.newLab hk hs hold (B := w.heap.size) (Nat.le_refl _) (by rw [hh]; simp) (D.cat_sl _ _) he hrow, ?_⟩
  simp only [RCl, lk_same, upd_same, Hdl]
  refine ⟨cap, _, e, by rw [D.cat_len], hB, ?_, by rw [D.cat_len]; exact hcap⟩
  rw [D.cat_stride, hz]
  simp only [Array.size_append, List.size_toArray, ho, hn, Builtin.zeroCells, Array.size_map, Array.size_range, hzc]
  rw [← Nat.add_mul, ← Nat.add_mul]
  congr 1; omega

theorem good_append (hty : TyOk P ty) (R : Rel cx st m a w) {lin : Bool} {nm t u : Nat} {x y : Operand} {e' : Nat} (hu : P.underlying u = some (.slice e'))
    (ho : ∀ v w', (Builtin.append_ #[t, u] o.type #[a.eval x, a.eval y]).run P w = .ok v w' → (execOp a.eval o).run P w = .ok (.value v) w')
    (hobl : ((evAppend ty lin nm t (valOf st x) (valOf st y)).run st).obl) :
    Good P cx st a w o ((evAppend ty lin nm t (valOf st x) (valOf st y)).run st) := by
  have hx := R.val x
  have hy := R.val y
  generalize valOf st x = ax at *
  generalize valOf st y = ay at *
  revert hobl
  unfold evAppend
  split
  · rename_i sz by' ag ze et en e s y' hi he
    obtain ⟨ht, hE⟩ := elemTI_slice hty hi rfl he
    rcases run_toD st y' (fun d => evApp e nm s y' d) with ⟨d, hd, k1⟩ | k1
    · rw [k1]
      unfold evApp
      split
      · rcases run_newLab st nm (fun k => .ret ⟨(d.isSl = true ∧ (d.len ≠ 0 → d.stride = e.size)) ∧ d.len * e.bytes ≤ 140737488355328 ∧ d.len ≤ 9223372036854775807, .c (.own k),
            [.lab k (.owned (D.cat (.sl e.size 0 fun _ => []) d))]⟩) with ⟨k, hk, k2⟩ | k2
        · rw [k2]
          intro hobl
          simp only [Rd.run] at hobl ⊢
          obtain ⟨⟨hs, hst⟩, hb, h63⟩ := hobl
          obtain ⟨ao, cap, hv, hel⟩ := R.elems hd hy hs
          obtain ⟨ns, n1, n2, n3, n4⟩ := run_first (P := P) hv hst hel
          have hx' : a.eval x = .slice none 0 0 := hx
          rw [hv] at n2
          by_cases h0 : d.len = 0
          · have hns : ns = [] := List.eq_nil_of_length_eq_zero (by rw [n1, h0]; simp)
            subst hns
            rw [h0] at n2
            have hr := run_append_nil0 (P := P) (w := w) (oty := o.type) ht hu hE n2
            refine Good.val (m' := m) (ho _ _ (by rw [hx', hv, h0]; exact hr)) (R.newNil hk (D.cat_sl _ _)) ?_
            have hno : m.own k = none := R.noown k (fun x => by rw [hk]; simp)
            simp only [RA, RU, RCl, putAll, Wr.put, lk_same, hno, Hdl]
            exact ⟨trivial, by rw [D.cat_len, h0]; rfl⟩
          · obtain ⟨w2, cap2, z, c1, c2, c3, c4, c5⟩ := run_append (P := P) (w := w) (oty := o.type) (bo := none) (sl := 0) (sc := 0) (olds := []) ht hu hE n2 (fun w2 _ => run_firstCells_none (P := P) w2 e.size 0 0 0) (by omega) (by omega) (by rw [Nat.zero_add]; exact hb)
            have hzc : z.cells.size = e.size := by rw [← Array.length_toList, c2, hE.zlen]
            obtain ⟨m', R', hr'⟩ := app_new R hk (z := .sl e.size 0 fun _ => []) (d := d) (size := e.size) rfl (by simp [D.len]) n1 (fun i hi => by simp [D.len] at hi) n4 c3 c4 hzc c1
            exact Good.val (ho _ _ (by rw [hx', hv]; exact c5)) R' hr'
        · rw [k2]; exact fun h => h.elim
      · rename_i j
        simp only [Rd.run]
        split
        · rename_i z hz
          rcases run_newLab st nm (fun k => .ret ⟨((d.isSl = true ∧ (d.len ≠ 0 → d.stride = e.size)) ∧ z.stride = e.size ∧ notLab y' j) ∧ (z.len + d.len) * e.bytes ≤ 140737488355328 ∧ z.len + d.len ≤ 9223372036854775807,
              .c (.own k), [.lab j .dead, .lab k (.owned (D.cat z d))]⟩) with ⟨k, hk, k2⟩ | k2
          · rw [k2]
            intro hobl
            simp only [Rd.run] at hobl ⊢
            obtain ⟨⟨⟨hs, hst⟩, hzst, hnl⟩, hb, h63⟩ := hobl
            obtain ⟨ao, cap, hv, hel⟩ := R.elems hd hy hs
            obtain ⟨ns, n1, n2, n3, n4⟩ := run_first (P := P) hv hst hel
            have hkj : k ≠ j := by rintro rfl; rw [hz] at hk; cases hk
            rw [hv] at n2
            have hzs := (R.owned j z hz).1
            -- the label dies
            have RK := R.kill hz
            have hkK : lk ((j, Lab.dead) :: st.lb) k = none := by rw [lk_other hkj]; exact hk
            have hsub : ∀ B, Sof cx m B → Sof cx ⟨upd m.own j none, m.box⟩ B := fun B h => ⟨h.1, fun i hi => by
              simp only [upd] at hi
              split at hi
              · cases hi
              · exact h.2.1 i hi, h.2.2⟩
            have hextK : Ext w w (Sof cx m) (Sof cx ⟨upd m.own j none, m.box⟩) := ⟨Nat.le_refl _, fun _ _ _ => rfl, fun B _ h => hsub B h⟩
            have hxv : RCl cx m w (lk st.lb) (.own j) (a.eval x) := hx
            obtain ⟨bo, sc, hxs, hxel⟩ := R.elems (y := .own j) (d := z) (Or.inl hz) hxv hzs
            obtain ⟨olds, o1, o2, o3, o4⟩ := run_first (P := P) hxs (fun _ => hzst) hxel
            rw [hxs] at o2
            by_cases hroom : z.len + d.len ≤ sc
            · cases hB : m.own j with
              | none =>
                simp only [RCl, hz, hB, Hdl] at hxv
                obtain ⟨e1, e2⟩ := hxv
                rw [hxs] at e1
                obtain ⟨rfl, _, rfl⟩ := by simpa using e1
                have h0 : d.len = 0 := by omega
                have hns : ns = [] := List.eq_nil_of_length_eq_zero (by rw [n1, h0]; simp)
                subst hns
                rw [h0] at n2
                have hr := run_append_nil0 (P := P) (w := w) (oty := o.type) ht hu hE n2
                refine Good.val (ho _ _ (by rw [hxs, hv, h0, e2]; exact hr)) (RK.newNil hkK (D.cat_sl _ _)) ?_
                have hno : upd m.own j none k = none := by rw [upd_other hkj]; exact R.noown k (fun x => by rw [hk]; simp)
                simp only [RA, RU, RCl, putAll, Wr.put, lk_same, hno, Hdl]
                exact ⟨trivial, by rw [D.cat_len, h0, e2]⟩
              | some B =>
                simp only [RCl, hz, hB, Hdl] at hxv
                obtain ⟨cap', c, T, e1, hc, hcs, hle⟩ := hxv
                rw [hxs] at e1
                obtain ⟨rfl, rfl⟩ := by simpa using e1
                have hroomC : z.len * e.size + ns.length ≤ c.size := by
                  rw [hcs, hzst, n1, ← Nat.add_mul]
                  exact Nat.mul_le_mul_right _ hroom
                obtain ⟨w2, c', hst2, sd⟩ := run_storeCells (P := P) B (z.len * e.size) T ns w c 0 hc n3 (by omega)
                have hr := run_append_in (P := P) (w := w) (w' := w2) (oty := o.type) (B := B) ht hu hE n2 hroom hst2
                have hS : ∀ B', B' < w.heap.size → Sof cx m B' → B' ≠ B := fun B' _ h e => by subst e; exact h.2.1 j hB
                have hext : Ext w w2 (Sof cx m) (Sof cx m) := ⟨by rw [sd.size]; exact Nat.le_refl _, fun B' h1 h2 => sd.other B' (hS B' h1 h2), fun _ _ h => h⟩
                obtain ⟨_, hrow0⟩ := R.owned j z hz
                obtain ⟨c0, T0, hc0, _, hz0⟩ := hrow0 B hB
                rw [hc] at hc0
                obtain ⟨rfl, rfl⟩ := by simpa using hc0
                have hrow : Row w2 (Sof cx m) B (D.cat z d) := by
                  refine ⟨c', T, sd.row, D.cat_sl _ _, ?_⟩
                  refine D.cat_row (w := w2) (S := Sof cx m) (f := fun r => c'[r]?) hzst (fun i hi => ?_) (fun i hi => ?_)
                  · obtain ⟨g1, g2⟩ := hz0 i hi
                    rw [hzst] at g1 g2
                    refine ⟨g1, fun q hq => ?_⟩
                    obtain ⟨v, hv2, hd2⟩ := g2 q hq
                    have : (i + 1) * e.size ≤ z.len * e.size := Nat.mul_le_mul_right _ hi
                    rw [Nat.add_mul] at this
                    exact ⟨v, by rw [sd.get, if_neg (by omega)]; exact hv2, hd2.ext hext⟩
                  · obtain ⟨g1, g2⟩ := n4 i hi
                    refine ⟨g1, fun q hq => ?_⟩
                    obtain ⟨v, hv2, hd2⟩ := g2 q hq
                    have hlt := (List.getElem?_eq_some_iff.1 hv2).1
                    refine ⟨v, ?_, hd2.ext hext⟩
                    rw [sd.get, Nat.add_mul, if_pos (by omega)]
                    rw [show z.len * e.size + i * e.size + q - (z.len * e.size + 0) = i * e.size + q by omega]
                    exact hv2
                have R2 := R.passOwn hB hz hk (x' := D.cat z d) (D.cat_sl _ _) sd.env sd.size sd.other hrow
                refine Good.val (ho _ _ (by rw [hxs, hv]; exact hr)) R2 ?_
                simp only [RA, RU, RCl, putAll, Wr.put, lk_same, upd_same, Hdl]
                exact ⟨sc, c', T, by rw [D.cat_len], sd.row, by rw [sd.len, hcs, D.cat_stride], by rw [D.cat_len]; exact hroom⟩
            · obtain ⟨w2, cap2, zz, c1, c2, c3, c4, c5⟩ := run_append (P := P) (w := w) (oty := o.type) ht hu hE n2 o2 (by omega) (by omega) (by omega)
              have hzc : zz.cells.size = e.size := by rw [← Array.length_toList, c2, hE.zlen]
              obtain ⟨m', R', hr'⟩ := app_new RK hkK (z := z) (d := d) (size := e.size) hzst o1 n1
                (fun i hi => ⟨(o4 i hi).1, fun q hq => by obtain ⟨u, hu, hr⟩ := (o4 i hi).2 q hq; exact ⟨u, hu, hr.ext hextK⟩⟩)
                (fun i hi => ⟨(n4 i hi).1, fun q hq => by obtain ⟨u, hu, hr⟩ := (n4 i hi).2 q hq; exact ⟨u, hu, hr.ext hextK⟩⟩) c3 c4 hzc c1
              exact Good.val (ho _ _ (by rw [hxs, hv]; exact c5)) R' hr'
          · rw [k2]; exact fun h => h.elim
        · exact bad_elim
      · exact bad_elim
    · rw [k1]; exact fun h => h.elim
  · exact bad_elim

end
end Go.Abs

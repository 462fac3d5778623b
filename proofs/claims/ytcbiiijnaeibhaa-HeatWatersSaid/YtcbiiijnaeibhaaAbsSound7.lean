/-
  Soundness, seventh part: slice literals, cuts, append.
-/
import Derived.Test.YtcbiiijnaeibhaaAbsSound6
set_option linter.unusedVariables false
set_option linter.unusedSimpArgs false
namespace Go.Abs
section
variable {P : Program} {ty : Tys} {cx : Cx} {st : St} {m m1 m' : Mp} {a : Act} {w w' : World} {o : Oper} {out : Out}

theorem labsOf_get {l : List AC} {j : Nat} (hj : j < l.length) : ∀ k ∈ labsOf [l.getD j .undef], k ∈ labsOf l := by
  intro k hk
  simp only [labsOf, List.mem_filterMap, List.mem_singleton] at *
  obtain ⟨x, rfl, hx⟩ := hk
  exact ⟨_, by rw [List.getD_eq_getElem?_getD, List.getElem?_eq_getElem hj]; exact List.getElem_mem _, hx⟩

theorem good_buildSlice (hty : TyOk P ty) (R : Rel cx st m a w) {lin : Bool} {nm t len : Nat} {ps : Array (Nat × Operand)} (ho : o.op = .buildSlice t len ps)
    (hobl : ((evBuildSlice ty lin nm t len ((ps.toList.map (·.1)).zip (valsOf st (ps.toList.map (·.2))))).run st).obl) :
    Good P cx st a w o ((evBuildSlice ty lin nm t len ((ps.toList.map (·.1)).zip (valsOf st (ps.toList.map (·.2))))).run st) := by
  revert hobl
  unfold evBuildSlice
  split
  · rename_i sz by' ag ze e en hi
    split
    · rename_i i he
      have hE := hty e i he
      obtain ⟨info, z, h1, h2, h3, h4, h5⟩ := hE.info
      have hzs : z.cells.size = i.size := by rw [← Array.length_toList, h5, hE.zlen]
      split
      · rename_i cs hf
        rcases run_shareLabs R cs (fun ws => toDs cs fun ds => newSl lin nm (len * i.size ≤ 16777216 ∧ i.zero.length = i.size ∧ 0 < i.size) (D.ofList i.size (chunks i.size ds len)) ws) with ⟨ws, m1, k1, R1, hup, hsh⟩ | k1
        · rw [k1]
          rcases run_toDs st cs (fun ds => newSl lin nm (len * i.size ≤ 16777216 ∧ i.zero.length = i.size ∧ 0 < i.size) (D.ofList i.size (chunks i.size ds len)) ws) with ⟨ds, hds, k2⟩ | k2
          · rw [k2]
            intro hobl
            have q1 := parts_rel R1 ps
            rw [valsOf_put] at q1
            obtain ⟨z1, z2⟩ := zero_cells (cx := cx) (m := m1) (w := w) hE h5 (lk (putAll st ws).lb)
            have hz0 : i.zero.length = i.size := hE.zlen
            have hsz0 : ((Array.range (len * i.size)).map (z.cells[· % z.cells.size]!)).size = (reps (i.zero.map zAC) len).length := by simp [reps_length, hz0]
            obtain ⟨c', f1, f2, f3, f4⟩ := fill_rel (cx := cx) (m := m1) (w := w) (lb := lk (putAll st ws).lb) (fun j => some (j * i.size, i.size)) _ _ (reps (i.zero.map zAC) len)
              ((Array.range (len * i.size)).map (z.cells[· % z.cells.size]!)) cs q1 hsz0 (fun j hj => by
                rw [reps_length, List.length_map, hz0] at hj
                have hpos : 0 < i.size := by
                  rcases Nat.eq_zero_or_pos i.size with h | h
                  · rw [h] at hj; simp at hj
                  · exact h
                have hm : j % z.cells.size < z.cells.size := Nat.mod_lt _ (by omega)
                obtain ⟨u, hu, hr⟩ := z2 (j % z.cells.size) (by rw [← z1]; exact hm)
                refine ⟨u, ?_, ?_⟩
                · have hbang : z.cells[j % z.cells.size]! = z.cells[j % z.cells.size]'hm := getElem!_pos z.cells _ hm
                  have : z.cells[j % z.cells.size]'hm = u := by simpa [hm] using hu
                  simp [hj, hbang, this]
                · rw [List.getD_eq_getElem?_getD, reps_get _ _ _ (by rw [List.length_map, hz0]; exact hj), ← z1, ← List.getD_eq_getElem?_getD]
                  exact hr) hf
            have hlen : cs.length = len * i.size := by rw [f3, reps_length, List.length_map, hz0]
            have hdl : ds.length = len * i.size := by rw [hds.1, hlen]
            have hx : (D.ofList i.size (chunks i.size ds len)).len = len := chunks_length _ _ _
            refine good_newSl R1 (fun k hk => hup.none hk) (w' := w.alloc (.cells c' e)) (c := c') (T := e) (cap := len) (fun hp => ?_) ⟨rfl, rfl, rfl⟩ rfl rfl (fun hp => ?_) (fun hp q hq => ?_) hobl
            · rw [hx]
              by_cases h0 : len * i.size = 0
              · have hl0 : len = 0 := by
                  rcases Nat.mul_eq_zero.1 h0 with h | h
                  · exact h
                  · have := hp.2.2; omega
                have e0 : ∀ f : Nat → Value, (Array.range 0).map f = #[] := fun f => Array.ext' (by simp [Array.toList_range])
                have f1' : Instr.fill (fun j => some (j * i.size, i.size)) #[] (ps.map fun (x : Nat × Operand) => (x.1, a.eval x.2)).toList = some c' := by
                  rw [h0, e0] at f1; exact f1
                have hrun : (Instr.buildSlice t len (ps.map fun (x : Nat × Operand) => (x.1, a.eval x.2))).run P w = .ok (.slice (some ⟨w.heap.size, 0, none⟩) len len) (w.alloc (.cells c' e)) := by
                  simp only [Instr.buildSlice, Sem.run_bind, run_underlying (hty t _ hi).und, hE.size_run, Result.andThen_ok, h0, Sem.run_ite]
                  rw [if_neg (by omega), if_pos trivial]
                  simp only [Sem.run_pure, Result.andThen_ok, e0, f1', newRow, Sem.run_bind, run_newObj]
                  rfl
                simp only [execOp, ho, Sem.run_bind, hrun, Result.andThen_ok, Sem.run_pure]
              · have hrun := run_buildSlice (P := P) w t e len (ps.map fun (x : Nat × Operand) => (x.1, a.eval x.2)) c' info z (hty t _ hi).und h1 h4 (by rw [h2]; omega) (by rw [h2]; exact h0) (by rw [h2]; exact f1)
                simp only [execOp, ho, Sem.run_bind, hrun, Result.andThen_ok, Sem.run_pure]
            · simp only [D.ofList, D.stride, D.len, chunks_length]
              exact ⟨by rw [f2, hlen], Nat.le_refl _⟩
            · rw [hx] at hq
              obtain ⟨c1, c2⟩ := chunks_get i.size ds len hdl q hq
              simp only [D.ofList, D.stride, D.nth]
              refine ⟨c1, fun j hj => ?_⟩
              have hlt : q * i.size + j < cs.length := by
                rw [hlen]
                have : (q + 1) * i.size ≤ len * i.size := Nat.mul_le_mul_right _ (by omega)
                rw [Nat.add_mul] at this; omega
              obtain ⟨u, hu, hr⟩ := f4 _ hlt
              refine ⟨u, hu, ?_⟩
              rw [List.getD_eq_getElem?_getD, c2 j hj, ← List.getD_eq_getElem?_getD]
              exact R1.dof_shared (hup.dof (hds.2 _ hlt)) (fun k hk => hsh k (labsOf_get hlt k hk)) hr
          · rw [k2]; exact fun h => h.elim
        · rw [k1]; exact fun h => h.elim
      · exact bad_elim
    · exact bad_elim
  · exact bad_elim

/-- a bound of a cut, in the model -/
theorem run_cut {t e len cap : Nat} {ie : TI} {ao : Option Addr} (ht : P.underlying t = some (.slice e)) (hE : TyFact P e ie) {lo hi : Option Value} {l h : Int}
    (hlo : (lo = none ∧ l = 0) ∨ ∃ k, lo = some (.int k l)) (hhi : (hi = none ∧ h = len) ∨ ∃ k, hi = some (.int k h)) (h0 : 0 ≤ l) (h1 : l ≤ h) (h2 : h ≤ len) (h3 : len ≤ cap) :
    (Instr.sliceAt t (.slice ao len cap) lo hi none).run P w = .ok (.slice (if cap = l.toNat then ao else ao.map (·.add (l.toNat * ie.size))) (h.toNat - l.toNat) (cap - l.toNat)) w := by
  have hb : (Instr.sliceBounds true len cap lo hi none).run P w = .ok (l.toNat, h.toNat, cap) w := by
    rcases hlo with ⟨rfl, rfl⟩ | ⟨k1, rfl⟩ <;> rcases hhi with ⟨rfl, rfl⟩ | ⟨k2, rfl⟩
    · simp [Instr.sliceBounds]
    · simp [Instr.sliceBounds, Instr.sliceBound, asIntOf, show 0 ≤ h by omega, show h ≤ (cap : Int) by omega]
    · simp [Instr.sliceBounds, Instr.sliceBound, asIntOf, h0, show l ≤ (len : Int) by omega]
    · have e1 : max h 0 = h := by omega
      simp [Instr.sliceBounds, Instr.sliceBound, asIntOf, h0, h1, show 0 ≤ h by omega, show h ≤ (cap : Int) by omega, e1]
  simp only [Instr.sliceAt, Instr.slice, Sem.run_bind, run_underlying ht, Result.andThen_ok, hb, hE.size_run, Sem.run_pure]

end
end Go.Abs

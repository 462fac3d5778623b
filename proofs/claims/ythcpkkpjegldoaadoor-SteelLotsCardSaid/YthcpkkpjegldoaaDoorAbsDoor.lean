/- A listed package variable: what a row's condition on it gives the abstract machine. -/
import Derived.Test.YthcpkkpjegldoaaDoorAbsRow
import Derived.LaidMore
import Derived.OpenShut
import Derived.MakeChecks
set_option linter.unusedVariables false
set_option linter.unusedSimpArgs false
namespace Go.Abs
theorem glob_of_laid {P : Program} {W : World} {n : String} {g t e : Nat} {l : List Int} (hglb : glb = [(g, l)]) (hgx : glbX = []) (hg : P.globalNamed n = some g) (ht : (P.globals[g]?).map (·.type) = some t)
    (hu : P.underlying t = some (.array l.length e)) (he : P.underlying e = some (.int .i64)) (hc : P.cellsOf e = 1) (hct : P.cellsOf t = l.length) (hl : 0 < l.length)
    (h : laidMetH P [(n, .agg (l.map fun z => .lit (.int .i64 z)))] W) : GlobOk W := by
  rw [MakeChecks.laidMetH_plain _ _ _ (by rfl)] at h
  obtain ⟨ps, ⟨g0, t0, cs0, f0, p0, q0, hg0, ht0, hv0, hd0, _, rfl⟩, _, hb⟩ := h
  obtain rfl := Option.some.inj (hg.symm.trans hg0)
  obtain rfl := Option.some.inj (ht.symm.trans ht0)
  obtain ⟨xs, m1, rfl, hx1, hlen, hn3, hel⟩ := DataW.trod_array hu hd0
  have hcell := fun i => World.var?_cell hg0 hv0 i
  have hsz : cs0.size = l.length := by rw [← Array.length_toList, hlen, hct]
  obtain ⟨⟨c, T, hheap⟩, _⟩ := hb g 0 (by
    refine List.mem_append_left _ (List.mem_append_left _ ?_)
    unfold MemPlace.row
    exact List.mem_map.2 ⟨0, by simp; omega, rfl⟩)
  refine ⟨?_, fun g p h => by rw [hgx] at h; cases h⟩
  intro g' l' hm
  rw [hglb] at hm
  obtain ⟨rfl, rfl⟩ : g' = g ∧ l' = l := by simpa using hm
  refine ⟨c, T, hheap, fun j hj => ?_⟩
  have h1 := hel j hj
  have hj' : j < xs.length := by omega
  rw [List.getElem?_eq_getElem hj'] at h1
  obtain ⟨k, e1, e2, _⟩ := DataW.trod_int he h1
  have hx2 := congrArg Prod.fst hx1
  simp only [DataW.agg.injEq] at hx2
  have h3 : (xs.map (·.1))[j]? = some (xs[j]).1 := by simp [hj']
  rw [← hx2] at h3
  have h4 : xs[j].1 = .lit (.int .i64 k) := by rw [e2]
  rw [h4] at h3
  have h5 : (l'.map fun z => (DataW.lit (.int .i64 z) : DataW Unit))[j]? = some (.lit (.int .i64 (l'.getD j 0))) := by
    rw [List.getElem?_map, List.getElem?_eq_getElem hj]
    simp [List.getD_eq_getElem?_getD, hj]
  rw [h5] at h3
  have hk : l'.getD j 0 = k := by simpa using h3
  rw [hc, Nat.mul_one] at e1
  have h6 := hcell j
  have h7 : cs0[j]? = some (.int .i64 k) := by
    rw [← Array.getElem?_toList]
    have h8 : ((cs0.toList.drop j).take 1)[0]? = some (.int .i64 k) := by rw [e1]; rfl
    simpa using h8
  rw [h7] at h6
  simp only [World.cell?, hheap] at h6
  rw [hk]; simpa using h6
end Go.Abs

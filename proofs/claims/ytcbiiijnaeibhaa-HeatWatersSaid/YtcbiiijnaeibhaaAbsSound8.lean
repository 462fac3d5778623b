/-
  Soundness, eighth part: cuts of slices, append.
-/
import Derived.Test.YtcbiiijnaeibhaaAbsSound7
set_option linter.unusedVariables false
set_option linter.unusedSimpArgs false
namespace Go.Abs
section
variable {P : Program} {ty : Tys} {cx : Cx} {st : St} {m m1 m' : Mp} {a : Act} {w w' : World} {o : Oper} {out : Out}

theorem D.sub_rd {S : Nat → Prop} {x : D} {v : Value} (hs : x.isSl = true) (h : RD w S x v) {l r s : Nat} (hlr : l ≤ r) (hr : r ≤ x.len) (hst : x.len ≠ 0 → x.stride = s) :
    ∃ ao cap, v = .slice ao x.len cap ∧ (x.len ≤ cap → RD w S (x.sub l r) (.slice (if cap = l then ao else ao.map (·.add (l * s))) (r - l) (cap - l))) ∧ (x.len = 0 ∨ x.len ≤ cap) := by
  cases h with
  | sl0 s' g ao cap =>
    simp only [D.len] at hr
    refine ⟨ao, cap, rfl, fun _ => ?_, .inl rfl⟩
    have : r - l = 0 := by omega
    simp only [D.sub, this]
    exact .sl0 _ _ _ _
  | sl s' n' g B q cap f hn hcap hB hS hl hc hrr =>
    simp only [D.len, D.stride] at hr hst
    refine ⟨some ⟨B, q, none⟩, cap, rfl, fun _ => ?_, .inr hcap⟩
    have hst' := hst (by omega)
    subst hst'
    by_cases h0 : r - l = 0
    · simp only [D.sub, h0]; exact .sl0 _ _ _ _
    · rw [if_neg (by omega), Option.map_some, addr_add]
      refine .sl _ _ _ B (q + l * s') _ (fun i j => f (l + i) j) (by omega) (by omega) hB hS (fun i hi => hl _ (by omega)) (fun i j hi hj => ?_) (fun i j hi hj => hrr _ _ (by omega) hj)
      have := hc (l + i) j (by omega) hj
      rw [Nat.add_mul] at this
      simp only [D.stride] at hj ⊢
      rw [show q + l * s' + (i * s' + j) = q + (l * s' + i * s' + j) by omega]
      exact this
  | _ => simp [D.isSl] at hs

theorem bound_rel {lb : Nat → Option Lab} {x : Option Operand} {dft : Nat} {n : Int} (h : bound (x.map (valOf st)) dft = some n) (hv : ∀ y, x = some y → RA cx m w lb (valOf st y) (a.eval y)) :
    (x.map a.eval = none ∧ n = dft) ∨ ∃ k, x.map a.eval = some (.int k n) := by
  cases x with
  | none => simp [bound] at h; exact .inl ⟨rfl, h.symm⟩
  | some y =>
    have hy := hv y rfl
    simp only [Option.map_some] at h ⊢
    generalize valOf st y = av at *
    unfold bound at h
    split at h
    · rename_i heq; cases heq
    · rename_i k n' heq
      obtain rfl := Option.some.inj heq
      obtain rfl := Option.some.inj h
      exact .inr ⟨k, by rw [rd_int hy]⟩
    · cases h

theorem good_slice (hty : TyOk P ty) (R : Rel cx st m a w) {t : Nat} {x : Operand} {lo hi mx : Option Operand} (ho : o.op = .slice t x lo hi mx)
    (hobl : ((evSlice ty t (valOf st x) (lo.map (valOf st)) (hi.map (valOf st)) mx.isSome).run st).obl) :
    Good P cx st a w o ((evSlice ty t (valOf st x) (lo.map (valOf st)) (hi.map (valOf st)) mx.isSome).run st) := by
  revert hobl
  unfold evSlice
  split
  · rename_i sz by' ag ze e en ie hi' he
    obtain ⟨ht, hE⟩ := elemTI_slice hty hi' rfl he
    split
    · rename_i y hxe
      rcases run_shareLabs R [y] (fun ws => toD y fun d => evCut ie (lo.map (valOf st)) (hi.map (valOf st)) mx.isSome d ws) with ⟨ws, m1, k1, R1, hup, hsh⟩ | k1
      · rw [k1]
        rcases run_toD st y (fun d => evCut ie (lo.map (valOf st)) (hi.map (valOf st)) mx.isSome d ws) with ⟨d, hd, k2⟩ | k2
        · rw [k2]
          unfold evCut
          split
          · rename_i l h hl hh
            intro hobl
            simp only [Rd.run] at hobl ⊢
            obtain ⟨hm, hs, hst, b1, b2, b3⟩ := hobl
            have hx := R1.val x
            rw [valOf_put, hxe] at hx
            have hrd := R1.dof_shared (hup.dof hd) hsh hx
            have g1 := bound_rel (cx := cx) (m := m) (w := w) (lb := lk st.lb) hl (fun y _ => R.val y)
            have g2 := bound_rel (cx := cx) (m := m) (w := w) (lb := lk st.lb) hh (fun y _ => R.val y)
            obtain ⟨ao, cap, hv, hsub, hcap⟩ := D.sub_rd hs hrd (l := l.toNat) (r := h.toNat) (s := ie.size) (by omega) (by omega) hst
            have hmx : mx = none := by cases mx <;> simp_all
            have key : ∀ u, (Instr.sliceAt t (a.eval x) (lo.map a.eval) (hi.map a.eval) none).run P w = .ok u w → (execOp a.eval o).run P w = .ok (.value u) w := by
              intro u h
              simp [execOp, ho, hmx, h]
            rcases hcap with h0 | hcap
            · -- an empty slice: whatever its capacity, what is cut is empty
              have e1 : l = 0 := by omega
              have e2 : h = 0 := by omega
              subst e1 e2
              by_cases hc : d.len ≤ cap
              · refine Good.val (m' := m1) (key _ ?_) R1 (hsub hc)
                rw [hv]
                exact run_cut ht hE (by simpa using g1) g2 (by omega) (by omega) (by omega) hc
              · omega
            · refine Good.val (m' := m1) (key _ ?_) R1 (hsub hcap)
              rw [hv]
              exact run_cut ht hE (by simpa using g1) g2 b1 b2 b3 hcap
          · exact bad_elim
        · rw [k2]; exact fun h => h.elim
      · rw [k1]; exact fun h => h.elim
    · exact bad_elim
  · exact bad_elim

end
end Go.Abs

/-
  Soundness, first part: types' facts, values of operands, loads.
-/
import Derived.Test.YtcbiiijnaeibhaaAbsSteps
import Derived.Test.YtcbiiijnaeibhaaAbsEv
import Derived.Laws.Append
import Derived.Laws.MakeOwn
import Derived.Laws.Rows
import Derived.Laws.StructEq
import Derived.Laws.Slices
set_option linter.unusedVariables false
set_option linter.unusedSimpArgs false
namespace Go.Abs

def ints (l : List Int) : Array Value := (l.map (Value.int .i64)).toArray

structure EqOk (P : Program) (t n : Nat) : Prop where
  guard : P.eqGuardType P.depth t = false
  run : ∀ (xs ys : List Int) (w : World), xs.length = n → ys.length = n → (Op.equalIn 10000 t (.agg (ints xs)) (.agg (ints ys))).run P w = .ok (decide (xs = ys)) w

structure TyFact (P : Program) (t : Nat) (i : TI) : Prop where
  info : ∃ info z, P.info? t = some info ∧ info.size = i.size ∧ info.bytes = i.bytes ∧ info.zero = some z ∧ z.cells.toList = i.zero
  und : P.underlying t = some i.desc
  agg : i.agg = (match i.desc with | .struct _ | .array _ _ => true | _ => false)
  one : i.agg = false → i.size = 1
  zlen : i.zero.length = i.size
  eq : ∀ n, i.eqn = some n → EqOk P t n

def TyOk (P : Program) (ty : Tys) : Prop := ∀ t i, ty t = some i → TyFact P t i

section
variable {P : Program} {t : Nat} {i : TI} (w : World)
theorem TyFact.size_run (h : TyFact P t i) : (sizeOf t).run P w = .ok i.size w := by
  obtain ⟨info, z, h1, h2, _⟩ := h.info
  simp [sizeOf, typeInfo, h1, h2]
theorem TyFact.und_run (h : TyFact P t i) : (underlying t).run P w = .ok i.desc w := run_underlying h.und w
theorem TyFact.agg_run (h : TyFact P t i) : (isAgg t).run P w = .ok i.agg w := by
  have := h.agg
  unfold isAgg
  rw [Sem.run_bind, h.und_run, Result.andThen_ok, this]
  cases i.desc <;> rfl
theorem TyFact.zero_run (h : TyFact P t i) : ∃ z, (zeroValue t).run P w = .ok z w ∧ z.cells.toList = i.zero := by
  obtain ⟨info, z, h1, h2, h3, h4, h5⟩ := h.info
  exact ⟨z, by simp [zeroValue, typeInfo, h1, h4], h5⟩
end

theorem addr_add (B o n : Nat) : (⟨B, o, none⟩ : Addr).add n = ⟨B, o + n, none⟩ := by
  unfold Addr.add; split <;> simp_all

theorem run_loadVar_agg {P : Program} {t : Nat} {i : TI} (h : TyFact P t i) (ha : i.agg = true) (w : World) (B o : Nat) (f : Nat → Value)
    (hc : ∀ j, j < i.size → w.cell? ⟨B, o + j, none⟩ = some (f j)) : (loadVar t ⟨B, o, none⟩).run P w = .ok (.agg ((List.range i.size).map f).toArray) w := by
  have hl := run_loadCells (P := P) w ⟨B, o, none⟩ i.size f (fun j hj => by rw [addr_add]; exact hc j hj)
  simp [loadVar, h.agg_run, ha, h.size_run, hl]

theorem run_loadVar_one {P : Program} {t : Nat} {i : TI} (h : TyFact P t i) (ha : i.agg = false) (w : World) (a : Addr) (v : Value)
    (hc : w.cell? a = some v) : (loadVar t a).run P w = .ok v w := by
  simp [loadVar, h.agg_run, ha, hc]

/-- The abstract value of an operand. -/
def valOf (st : St) : Operand → AV
  | .tmp t => (lk st.sl t).getD default
  | .const v => ofValue v
  | .func g => .c (.clo g [])
  | .global _ => .c .undef

theorem run_opd (st : St) (x : Operand) (f : AV → Rd Out) : (opd x f).run st = (f (valOf st x)).run st := by cases x <;> rfl

def valsOf (st : St) : List Operand → List AV
  | [] => []
  | x :: r => valOf st x :: valsOf st r
theorem run_opds (st : St) (l : List Operand) (f : List AV → Rd Out) : (opds l f).run st = (f (valsOf st l)).run st := by
  induction l generalizing f with
  | nil => rfl
  | cons x r ih => simp only [opds, run_opd, valsOf]; rw [ih]
theorem valsOf_length (st : St) (l : List Operand) : (valsOf st l).length = l.length := by induction l <;> simp_all [valsOf]
theorem valsOf_getD (st : St) (l : List Operand) (j : Nat) (hj : j < l.length) : (valsOf st l).getD j default = valOf st (l.getD j default) := by
  induction l generalizing j with
  | nil => simp at hj
  | cons x r ih => cases j with
    | zero => rfl
    | succ j => simpa [valsOf] using ih j (by simpa using hj)

section
variable {cx : Cx} {st : St} {m : Mp} {a : Act} {w : World}

theorem rcl_zAC (lb : Nat → Option Lab) (v : Value) : RCl cx m w lb (zAC v) v := by
  unfold zAC
  split <;> simp only [RCl] <;> first | constructor | trivial

theorem ra_ofValue (lb : Nat → Option Lab) (v : Value) : RA cx m w lb (ofValue v) v := by
  unfold ofValue
  split
  · rename_i cs
    refine ⟨cs, rfl, by simp, fun j hj => ?_⟩
    simp only [List.length_map, Array.length_toList] at hj
    exact ⟨cs[j], by simp [hj], by simpa [hj, List.getD] using rcl_zAC lb cs[j]⟩
  · exact rcl_zAC lb v

theorem Rel.val (R : Rel cx st m a w) (x : Operand) : RA cx m w (lk st.lb) (valOf st x) (a.eval x) := by
  cases x with
  | tmp t =>
    simp only [valOf, Act.eval]
    cases h : lk st.sl t with
    | none => exact trivial
    | some v => exact (R.slots t v h).2
  | const v => exact ra_ofValue _ v
  | func g => exact ⟨#[], rfl, rfl, fun i hi => by simp at hi⟩
  | global g => exact trivial

/-- LOADS: cells that read as abstract cells give a value that reads as what 'loadD' says. -/
theorem load_rel {P : Program} {t : Nat} {i : TI} {lb : Nat → Option Lab} (h : TyFact P t i) {off B o : Nat} {l : List AC} (hobl : ((loadD i off l).run st).obl)
    (hc : ∀ j, j < l.length → ∃ u, w.cell? ⟨B, o + j, none⟩ = some u ∧ RCl cx m w lb (l.getD j .undef) u) :
    ∃ v, (loadVar t ⟨B, o + off, none⟩).run P w = .ok v w ∧ RA cx m w lb ((loadD i off l).run st).dst v ∧ ((loadD i off l).run st).wr = [] := by
  unfold loadD at *
  split at hobl
  · rename_i ha
    simp only [ha, if_true, Rd.run] at hobl ⊢
    have hf : ∀ j, j < i.size → ∃ u, w.cell? ⟨B, o + off + j, none⟩ = some u ∧ RCl cx m w lb (l.getD (off + j) .undef) u := fun j hj => by
      have := hc (off + j) (by omega)
      rwa [← Nat.add_assoc] at this
    refine ⟨_, run_loadVar_agg h ha w B (o + off) (fun j => (w.cell? ⟨B, o + off + j, none⟩).getD undef) (fun j hj => ?_), ⟨_, rfl, by simp; omega, fun j hj => ?_⟩, by trivial⟩
    · obtain ⟨u, hu, _⟩ := hf j hj
      simp [hu]
    · simp only [List.length_take, List.length_drop] at hj
      have hj' : j < i.size := by omega
      obtain ⟨u, hu, hr⟩ := hf j hj'
      refine ⟨u, by simp [hj', hu], ?_⟩
      have : ((l.drop off).take i.size).getD j .undef = l.getD (off + j) .undef := by
        simp [List.getD_eq_getElem?_getD, hj', List.getElem?_drop]
      rw [this]; exact hr
  · rename_i ha
    simp only [ha, Rd.run] at hobl ⊢
    obtain ⟨u, hu, hr⟩ := hc off hobl
    exact ⟨u, run_loadVar_one h (by simpa using ha) w _ u hu, hr, rfl⟩

end
end Go.Abs

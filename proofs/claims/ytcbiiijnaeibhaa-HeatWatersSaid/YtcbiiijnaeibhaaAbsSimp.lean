/-
  The rules by which simp runs the abstract machine: attached to the kit's set 'go_sem'.
-/
import Derived.Test.YtcbiiijnaeibhaaAbsDraw2
import Derived.Test.YtcbiiijnaeibhaaAbsKont
set_option linter.unusedVariables false
set_option linter.unusedSimpArgs false
namespace Go.Abs

def underV (c : Bool) (v : AV) (f : AV → Rd Out) : Rd Out :=
  match v with
  | .cnd q x => addObl (c = true → q = true) (underC c (f (.u x)))
  | v => underC c (f v)
theorem run_underC_tmp (c : Bool) (t : Nat) (f : AV → Rd Out) (st : St) : (underC c (opd (.tmp t) f)).run st = (underV c ((lk st.sl t).getD default) f).run st := by
  simp only [opd, underC, Rd.run]
  cases (lk st.sl t).getD default <;> rfl
theorem run_underC_const (c : Bool) (v : Value) (f : AV → Rd Out) (st : St) : (underC c (opd (.const v) f)).run st = (underC c (f (ofValue v))).run st := rfl
theorem run_underC_func (c : Bool) (g : Nat) (f : AV → Rd Out) (st : St) : (underC c (opd (.func g) f)).run st = (underC c (f (.c (.clo g [])))).run st := rfl
theorem underV_u (c : Bool) (x : AU) (f : AV → Rd Out) : underV c (.u x) f = underC c (f (.u x)) := rfl
theorem underV_tup (c : Bool) (x : List AU) (f : AV → Rd Out) : underV c (.tup x) f = underC c (f (.tup x)) := rfl
theorem underV_cnd (c q : Bool) (x : AU) (f : AV → Rd Out) : underV c (.cnd q x) f = addObl (c = true → q = true) (underC c (f (.u x))) := rfl

theorem log_opd_tmp (t : Nat) (f : AV → Rd Out) (st : St) : (opd (.tmp t) f).log st = .slot t :: (f ((lk st.sl t).getD default)).log st := rfl
theorem log_opd_const (v : Value) (f : AV → Rd Out) (st : St) : (opd (.const v) f).log st = (f (ofValue v)).log st := rfl
theorem log_opd_func (g : Nat) (f : AV → Rd Out) (st : St) : (opd (.func g) f).log st = (f (.c (.clo g []))).log st := rfl
theorem log_addObl (p : Prop) (r : Rd Out) (st : St) : (addObl p r).log st = r.log st := by
  induction r with
  | ret o => rfl
  | slot t k ih => simp only [addObl, Rd.log]; rw [ih]
  | box b k ih => simp only [addObl, Rd.log]; rw [ih]
  | lab l k ih => simp only [addObl, Rd.log]; rw [ih]
theorem log_underC_tmp (c : Bool) (t : Nat) (f : AV → Rd Out) (st : St) : (underC c (opd (.tmp t) f)).log st = .slot t :: (underV c ((lk st.sl t).getD default) f).log st := by
  simp only [opd, underC, Rd.log]
  cases (lk st.sl t).getD default <;> rfl
theorem log_underC_const (c : Bool) (v : Value) (f : AV → Rd Out) (st : St) : (underC c (opd (.const v) f)).log st = (underC c (f (ofValue v))).log st := rfl
theorem log_underC_func (c : Bool) (g : Nat) (f : AV → Rd Out) (st : St) : (underC c (opd (.func g) f)).log st = (underC c (f (.c (.clo g [])))).log st := rfl

theorem getD_some {α : Type} (x d : α) : (some x).getD d = x := rfl
theorem getD_none {α : Type} (d : α) : (none : Option α).getD d = d := rfl

attribute [go_sem] foots writes Wr.comp Rd.log log_opd_tmp log_opd_const log_opd_func log_addObl log_underC_tmp log_underC_const log_underC_func vc evSeq stepIdx okv bad valOf lk St.begin argSl argAV St.done putAll St.slot ofValue zAC run_addObl run_underC_tmp run_underC_const run_underC_func
  underV_u underV_tup underV_cnd evPick unstrip evBin binD AV.c AV.agg Wr.put AU.cells AU.solid AC.solid
  fin retAll retOne ausOk auOk cellOk cellsOk ownAll ownLabs shAll shLabs labOf RV.cells D.scalar loadD popK nthD dstOk getD_some getD_none
  splice plainD plainDs fieldOff evField elemTI evIndexAddr evIndex fillParts fieldPlace' evBuild reps chunks evMakeSlice bound evCut evMinMax notLab
  resAV allCells noCaps evConvert capsOf eqCells

end Go.Abs

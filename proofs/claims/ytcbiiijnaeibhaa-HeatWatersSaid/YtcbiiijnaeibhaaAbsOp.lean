/-
  Every operation is sound.
-/
import Derived.Test.YtcbiiijnaeibhaaAbsCall2
import Derived.Laws.Small
set_option linter.unusedVariables false
set_option linter.unusedSimpArgs false
namespace Go.Abs
section
variable {P : Program} {ty : Tys} {tb : Fns} {cx : Cx} {st : St} {m m1 m' : Mp} {a : Act} {w w' : World} {o : Oper} {out : Out} {ws : List Wr}

theorem good_len (hty : TyOk P ty) (R : Rel cx st m a w) {t : Nat} {x : Operand} (ho : ∀ v, (Builtin.len_ #[t] o.type #[a.eval x]).run P w = .ok v w → (execOp a.eval o).run P w = .ok (.value v) w)
    (hobl : ((evLen ty t (valOf st x)).run st).obl) : Good P cx st a w o ((evLen ty t (valOf st x)).run st) := by
  have hx := R.val x
  generalize valOf st x = av at *
  revert hobl
  unfold evLen
  split
  · rename_i sz by' ag ze e en y hi
    rcases run_toD st y (fun d => .ret ⟨d.isSl = true, .c (.d (.int .i64 d.len)), []⟩) with ⟨d, hd, k⟩ | k
    · rw [k]
      intro hobl
      simp only [Rd.run] at hobl ⊢
      obtain ⟨ao, cap, hv, _⟩ := R.elems hd hx hobl
      refine Good.val (m' := m) (ho _ ?_) R (RD.int _ _)
      simp [Builtin.len_, hv, run_underlying (hty t _ hi).und, goInt]
    · rw [k]; exact fun h => h.elim
  · rename_i sz by' ag ze en s hi
    intro _
    have hs : a.eval x = .string s := by
      generalize a.eval x = v at hx
      cases hx; rfl
    refine Good.val (m' := m) (ho _ ?_) R (RD.int _ _)
    simp [Builtin.len_, hs, run_underlying (hty t _ hi).und, goInt]
  · exact bad_elim

theorem good_minmax (R : Rel cx st m a w) {mx : Bool} {args : Array Operand}
    (ho : ∀ v, ((if mx then Builtin.max_ else Builtin.min_) #[] 0 (args.map a.eval)).run P w = .ok v w → (execOp a.eval o).run P w = .ok (.value v) w)
    (hobl : ((evMinMax mx (valsOf st args.toList)).run st).obl) : Good P cx st a w o ((evMinMax mx (valsOf st args.toList)).run st) := by
  obtain ⟨args⟩ := args
  simp only at *
  revert hobl
  match args with
  | [x, y] =>
    simp only [valsOf]
    have hx := R.val x
    have hy := R.val y
    generalize valOf st x = ax at *
    generalize valOf st y = ay at *
    unfold evMinMax
    split
    · rename_i j p k q heq
      obtain ⟨rfl, rfl⟩ := by simpa using heq
      intro hobl
      simp only [Rd.run] at hobl ⊢
      have hx' := rd_int hx
      have hy' := rd_int hy
      refine Good.val (m' := m) (ho _ ?_) R (RD.int _ _)
      simp only [List.map_toArray, List.map_cons, List.map_nil, hx', hy']
      cases mx with
      | true => simp only [if_true]; rw [run_max_int2]
      | false => simp only [Bool.false_eq_true, if_false]; rw [run_min_int2]
    · exact bad_elim
  | [] => exact bad_elim
  | [x] => simp only [valsOf]; unfold evMinMax; split <;> first | (rename_i heq; simp at heq; done) | exact bad_elim
  | x :: y :: z :: r => simp only [valsOf]; unfold evMinMax; split <;> first | (rename_i heq; simp at heq; done) | exact bad_elim

theorem capsOf_rel (R : Rel cx st m a w) : ∀ {l : List Operand} {cs : List Cap}, capsOf (valsOf st l) = some cs →
    l.length = cs.length ∧ ∀ i, i < cs.length → ∃ u, (l.map a.eval)[i]? = some u ∧ RCap cx m w (cs.getD i (.ref 0 0)) u
  | [], cs, h => by simp [valsOf, capsOf] at h; subst h; simp
  | x :: l, cs, h => by
    have hx := R.val x
    simp only [valsOf] at h
    generalize valOf st x = av at *
    unfold capsOf at h
    split at h
    · rename_i heq; cases heq
    · rename_i b off r heq
      obtain ⟨rfl, rfl⟩ := by simpa using heq
      simp only [Option.map_eq_some_iff] at h
      obtain ⟨cs', h1, rfl⟩ := h
      obtain ⟨g1, g2⟩ := capsOf_rel R h1
      refine ⟨by simp [g1], fun i hi => ?_⟩
      cases i with
      | zero => exact ⟨_, rfl, hx⟩
      | succ i => simpa using g2 i (by simpa using hi)
    · rename_i b off r heq
      obtain ⟨rfl, rfl⟩ := by simpa using heq
      simp only [Option.map_eq_some_iff] at h
      obtain ⟨cs', h1, rfl⟩ := h
      obtain ⟨g1, g2⟩ := capsOf_rel R h1
      refine ⟨by simp [g1], fun i hi => ?_⟩
      cases i with
      | zero => exact ⟨_, rfl, hx⟩
      | succ i => simpa using g2 i (by simpa using hi)
    · cases h

theorem args_one {args : Array Operand} {x : Operand} (h : args.toList = [x]) : args = #[x] := by
  obtain ⟨l⟩ := args; simp at h; subst h; rfl
theorem args_two {args : Array Operand} {x y : Operand} (h : args.toList = [x, y]) : args = #[x, y] := by
  obtain ⟨l⟩ := args; simp at h; subst h; rfl
theorem tys_one {args : Array Nat} {x : Nat} (h : args.toList = [x]) : args = #[x] := by
  obtain ⟨l⟩ := args; simp at h; subst h; rfl
theorem tys_two {args : Array Nat} {x y : Nat} (h : args.toList = [x, y]) : args = #[x, y] := by
  obtain ⟨l⟩ := args; simp at h; subst h; rfl

/-- EVERY OPERATION IS SOUND. -/
theorem evOp_good (hty : TyOk P ty) (htb : FnsOk P tb) (R : Rel cx st m a w) {lin : Bool} (hobl : ((evOp ty tb lin o).run st).obl) : Good P cx st a w o ((evOp ty tb lin o).run st) := by
  revert hobl
  unfold evOp
  split
  case h_1 x ho => simp only [run_opd]; exact fun _ => good_move R (.inl ho)
  case h_2 x ho => simp only [run_opd]; exact fun _ => good_move R (.inr ho)
  case h_3 c x y ho => simp only [run_opd]; exact fun h => good_pick R ho h
  case h_4 t ho =>
    split
    · rename_i i _ hi; exact fun h => good_alloc hty R ho hi h
    · exact bad_elim
  case h_5 t x ho =>
    rw [run_opd]
    have hx := R.val x
    split
    · rename_i v hv
      rw [hv] at hx
      split
      · exact fun h => good_box R ho hx h
      · exact bad_elim
    · exact bad_elim
  case h_6 t ps ho => rw [run_opds]; exact fun h => good_build hty R ho h
  case h_7 t n ps ho => rw [run_opds]; exact fun h => good_buildSlice hty R ho h
  case h_8 t x ho => rw [run_opd]; exact fun h => good_load hty R ho h
  case h_9 t x y ho =>
    simp only [run_opd]
    split
    · exact fun h => good_store hty R ho h
    · exact bad_elim
  case h_10 x ho =>
    rw [run_opd]
    have hx := R.val x
    split
    · rename_i b off hv
      intro _
      rw [hv] at hx ⊢
      obtain ⟨B, _, hp⟩ := id hx
      exact good_nilCheck R ho hx hp
    · rename_i l off hv
      intro _
      rw [hv] at hx ⊢
      obtain ⟨B, q, hp, _⟩ := id hx
      exact good_nilCheck R ho hx hp
    · exact bad_elim
  case h_11 op t x y yt ho => simp only [run_opd]; exact fun h => good_bin hty R ho h
  case h_12 op t x ho =>
    rw [run_opd]
    have hx := R.val x
    split
    · rename_i k n hv
      intro _
      rw [hv] at hx
      have hx' := rd_int hx
      refine good_okv R (u := .int k (k.wrap (0 - n))) ?_ (RD.int _ _)
      simp [execOp, ho, hx', Op.unary, Op.intArith]
    · rename_i b hv
      intro _
      rw [hv] at hx
      have hx' := rd_bool hx
      refine good_okv R (u := .bool !b) ?_ (RD.bool _)
      simp [execOp, ho, hx', Op.unary]
    · exact bad_elim
  case h_13 s d x ho =>
    split
    · rename_i i hi; rw [run_opd]; exact fun h => good_convert hty R ho (by rw [hi]; rfl) h
    · exact bad_elim
  case h_14 f first caps ho =>
    split
    · rename_i hf
      rw [run_opds]
      split
      · rename_i cs hcs
        intro _
        obtain ⟨g1, g2⟩ := capsOf_rel R hcs
        refine good_okv R (u := .func (.func f) #[] (caps.map a.eval)) ?_ ⟨_, rfl, by simpa using g1, fun i hi => by simpa using g2 i hi⟩
        have : first = #[] := by obtain ⟨l⟩ := first; simp at hf; subst hf; rfl
        simp [execOp, ho, Instr.makeFunc, this]
      · exact bad_elim
    · exact bad_elim
  case h_15 t x y ho => simp only [run_opd]; exact fun h => good_makeSlice hty R ho h
  case h_16 t x lo hi mx ho =>
    rw [run_opd]
    split
    · exact fun h => good_slice hty R ho h
    · rw [run_opd]; exact fun h => good_slice hty R ho h
    · rw [run_opd]; exact fun h => good_slice hty R ho h
    · simp only [run_opd]; exact fun h => good_slice hty R ho h
  case h_17 s x f ho => rw [run_opd]; exact fun h => good_fieldAddr hty R ho h
  case h_18 s x f ho => rw [run_opd]; exact fun h => good_field hty R ho h
  case h_19 t x y ho => simp only [run_opd]; exact fun h => good_indexAddr hty R ho h
  case h_20 t x y ho => simp only [run_opd]; exact fun h => good_index hty R ho h
  case h_21 x i ho =>
    rw [run_opd]
    have hx := R.val x
    split
    · rename_i l hv
      rw [hv] at hx
      intro hi
      exact good_extract R ho hx hi
    · exact bad_elim
  case h_22 args ts ho =>
    split
    · rename_i x t h1 h2
      rw [run_opd]
      refine fun h => good_len hty R (fun v hv => ?_) h
      simp [execOp, ho, resolve, invoke, builtin, args_one h1, tys_one h2, hv]
    · exact bad_elim
  case h_23 args ts ho =>
    split
    · rename_i s x t u h1 h2
      split
      · rename_i sz by' ag ze e en hu
        simp only [run_opd]
        refine fun h => good_append hty R (hty u _ hu).und (fun v w' hv => ?_) h
        simp [execOp, ho, resolve, invoke, builtin, args_two h1, tys_two h2, hv]
      · exact bad_elim
    · exact bad_elim
  case h_24 args ts ho =>
    rw [run_opds]
    refine fun h => good_minmax R (mx := true) (fun v hv => ?_) h
    simp only [if_true] at hv
    have hv' : (Builtin.max_ ts o.type (args.map a.eval)).run P w = .ok v w := hv
    simp [execOp, ho, resolve, invoke, builtin, hv']
  case h_25 args ts ho =>
    rw [run_opds]
    refine fun h => good_minmax R (mx := false) (fun v hv => ?_) h
    simp only [Bool.false_eq_true, if_false] at hv
    have hv' : (Builtin.min_ ts o.type (args.map a.eval)).run P w = .ok v w := hv
    simp [execOp, ho, resolve, invoke, builtin, hv']
  case h_26 f args ts ho =>
    rw [run_opd]
    split
    · rename_i g caps hv
      rw [run_opds]
      exact fun h => good_call htb R ho hv h
    · exact bad_elim
  case h_27 => exact bad_elim

end
end Go.Abs

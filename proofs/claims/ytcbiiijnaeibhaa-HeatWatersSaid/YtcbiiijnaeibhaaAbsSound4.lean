/-
  Soundness, fourth part: fields, indexes, numbers, tests.
-/
import Derived.Test.YtcbiiijnaeibhaaAbsSound3
set_option linter.unusedVariables false
set_option linter.unusedSimpArgs false
namespace Go.Abs
section
variable {P : Program} {ty : Tys} {cx : Cx} {st : St} {m m' : Mp} {a : Act} {w w' : World} {o : Oper} {out : Out}

/-- a part of an aggregate -/
theorem part_rel {t : Nat} {i : TI} {lb : Nat → Option Lab} (h : TyFact P t i) {off : Nat} {l : List AC} {vs : Array Value} (hsz : vs.size = l.length)
    (hc : ∀ j, j < l.length → ∃ u, vs[j]? = some u ∧ RCl cx m w lb (l.getD j .undef) u) (hobl : ((loadD i off l).run st).obl) :
    ∃ v, (part t vs off).run P w = .ok v w ∧ RA cx m w lb ((loadD i off l).run st).dst v ∧ ((loadD i off l).run st).wr = [] := by
  unfold loadD at *
  split at hobl
  · rename_i ha
    simp only [ha, if_true, Rd.run] at hobl ⊢
    refine ⟨.agg (vs.extract off (off + i.size)), by simp [part, h.agg_run, ha, h.size_run], ⟨_, rfl, by simp; omega, fun j hj => ?_⟩, by trivial⟩
    simp only [List.length_take, List.length_drop] at hj
    obtain ⟨u, hu, hr⟩ := hc (off + j) (by omega)
    refine ⟨u, by rw [Array.getElem?_extract, if_pos (by omega)]; exact hu, ?_⟩
    have : ((l.drop off).take i.size).getD j .undef = l.getD (off + j) .undef := by
      simp [List.getD_eq_getElem?_getD, show j < i.size by omega, List.getElem?_drop]
    rw [this]; exact hr
  · rename_i ha
    simp only [ha, Rd.run] at hobl ⊢
    obtain ⟨u, hu, hr⟩ := hc off hobl
    exact ⟨u, by simp [part, h.agg_run, ha, hu], hr, by trivial⟩

theorem good_field (hty : TyOk P ty) (R : Rel cx st m a w) {s f : Nat} {x : Operand} (ho : o.op = .field s x f) (hobl : ((evField ty s f (valOf st x)).run st).obl) :
    Good P cx st a w o ((evField ty s f (valOf st x)).run st) := by
  have hx := R.val x
  generalize valOf st x = av at *
  revert hobl
  unfold evField
  split
  · rename_i o' i l h
    intro hobl
    obtain ⟨vs, hv, hsz, hc⟩ := hx
    obtain ⟨fs, fd, h1, h2, rfl, h4, h5⟩ := fieldOff_fact hty h
    obtain ⟨v, hr, hra, hw⟩ := part_rel (P := P) (cx := cx) (st := st) (m := m) (w := w) (lb := lk st.lb) h4 hsz hc hobl
    refine Good.val (m' := m) (v := v) ?_ (by rw [hw]; exact R) (by rw [hw]; exact hra)
    simp [execOp, ho, Instr.field, run_underlying h1, h2, hv, asAgg, hr]
  · exact bad_elim

theorem elemTI_slice (hty : TyOk P ty) {t e : Nat} {i ie : TI} (hi : ty t = some i) (hd : i.desc = .slice e) (he : elemTI ty t = some ie) :
    P.underlying t = some (.slice e) ∧ TyFact P e ie := by
  refine ⟨by rw [← hd]; exact (hty t i hi).und, ?_⟩
  unfold elemTI at he
  obtain ⟨sz, by', ag, ze, desc, en⟩ := i
  simp only at hd
  subst hd
  simp only [hi] at he
  exact hty e ie he
theorem elemTI_array (hty : TyOk P ty) {t e n : Nat} {i ie : TI} (hi : ty t = some i) (hd : i.desc = .array n e) (he : elemTI ty t = some ie) :
    P.underlying t = some (.array n e) ∧ TyFact P e ie := by
  refine ⟨by rw [← hd]; exact (hty t i hi).und, ?_⟩
  unfold elemTI at he
  obtain ⟨sz, by', ag, ze, desc, en⟩ := i
  simp only at hd
  subst hd
  simp only [hi] at he
  exact hty e ie he

theorem rd_int {S : Nat → Prop} {k : IntKind} {n : Int} {v : Value} (h : RD w S (.int k n) v) : v = .int k n := by cases h; rfl
theorem rd_bool {S : Nat → Prop} {b : Bool} {v : Value} (h : RD w S (.bool b) v) : v = .bool b := by cases h; rfl

/-- the elements of a slice that reads as data -/
theorem rd_elem {S : Nat → Prop} {x : D} {v : Value} (hs : x.isSl = true) (h : RD w S x v) {i : Nat} (hi : i < x.len) :
    ∃ B q cap, v = .slice (some ⟨B, q, none⟩) x.len cap ∧ Ptr w S (x.nth i) 0 (.pointer (some ⟨B, q + i * x.stride, none⟩)) := by
  cases h with
  | sl0 s g ao cap => simp [D.len] at hi
  | sl s n g B q cap f hn hcap hB hS hl hc hr =>
    simp only [D.len, D.nth, D.stride] at *
    refine ⟨B, q, cap, rfl, B, q + i * s, rfl, hB, hS, fun j hj => ?_⟩
    rw [hl i hi] at hj
    exact ⟨f i j, by rw [Nat.add_assoc]; exact hc i j hi hj, hr i j hi hj⟩
  | _ => simp [D.isSl] at hs

theorem run_indexAt_slice {t e : Nat} {ie : TI} (ht : P.underlying t = some (.slice e)) (he : TyFact P e ie) {B q n cap : Nat} {k : IntKind} {i : Int} (h0 : 0 ≤ i) (h1 : i < n) :
    (Instr.indexAt t (.slice (some ⟨B, q, none⟩) n cap) (.int k i)).run P w = .ok (.pointer (some ⟨B, q + i.toNat * ie.size, none⟩)) w := by
  simp [Instr.indexAt, asIntOf, run_underlying ht, h0, h1, he.size_run, addr_add]
theorem run_indexAt_array {t e len : Nat} {ie : TI} (ht : P.underlying t = some (.array len e)) (he : TyFact P e ie) {B q : Nat} {k : IntKind} {i : Int} (h0 : 0 ≤ i) (h1 : i < len) :
    (Instr.indexAt t (.pointer (some ⟨B, q, none⟩)) (.int k i)).run P w = .ok (.pointer (some ⟨B, q + i.toNat * ie.size, none⟩)) w := by
  simp [Instr.indexAt, asIntOf, Instr.sureAddr, run_underlying ht, h0, h1, he.size_run, addr_add]

theorem good_indexAddr (hty : TyOk P ty) (R : Rel cx st m a w) {t : Nat} {x y : Operand} (ho : o.op = .indexAddr t x y) (hobl : ((evIndexAddr ty t (valOf st x) (valOf st y)).run st).obl) :
    Good P cx st a w o ((evIndexAddr ty t (valOf st x) (valOf st y)).run st) := by
  have hx := R.val x
  have hy := R.val y
  generalize valOf st x = ax at *
  generalize valOf st y = ay at *
  revert hobl
  unfold evIndexAddr
  split
  · rename_i sz by' ag ze e en ie k i hi he
    obtain ⟨ht, hE⟩ := elemTI_slice hty hi rfl he
    have hy' := rd_int hy
    have hexec : ∀ {v u}, a.eval x = u → (Instr.indexAt t u (.int k i)).run P w = .ok v w → (execOp a.eval o).run P w = .ok (.value v) w := by
      intro v u hu h
      simp [execOp, ho, hu, hy', h]
    split
    · rename_i kk
      simp only [RA, RU, RCl] at hx
      simp only [Rd.run]
      split
      · rename_i z hl
        intro hobl
        simp only [hl] at hx
        simp only [Rd.run] at hobl ⊢
        obtain ⟨⟨h0, h1⟩, h2⟩ := hobl
        obtain ⟨hsl, hrow⟩ := R.owned kk z hl
        cases hB : m.own kk with
        | none => simp only [hB, Hdl] at hx; omega
        | some B =>
          simp only [hB, Hdl] at hx
          obtain ⟨cap, c, T, hv, hc, _, _⟩ := hx
          refine Good.val (m' := m) (hexec hv (run_indexAt_slice (B := B) (q := 0) ht hE h0 h1)) R ?_
          simp only [putAll, RA, RU, RCl, hl]
          exact ⟨by omega, B, hB, by rw [h2]; simp⟩
      · rename_i z hl
        intro hobl
        simp only [hl] at hx
        simp only [Rd.run] at hobl ⊢
        obtain ⟨⟨h0, h1⟩, h2⟩ := hobl
        obtain ⟨B, q, cap, hv, hp⟩ := rd_elem hx.1 hx.2 (i := i.toNat) (by omega)
        refine Good.val (m' := m) (hexec hv (run_indexAt_slice ht hE h0 h1)) R ?_
        rw [← h2]; exact hp
      · exact bad_elim
    · rename_i z
      intro hobl
      simp only [Rd.run] at hobl ⊢
      obtain ⟨hs, ⟨h0, h1⟩, h2⟩ := hobl
      obtain ⟨B, q, cap, hv, hp⟩ := rd_elem hs hx (i := i.toNat) (by omega)
      refine Good.val (m' := m) (hexec hv (run_indexAt_slice ht hE h0 h1)) R ?_
      rw [← h2]; exact hp
    · exact bad_elim
  · rename_i sz by' ag ze n e en ie k i hi he
    obtain ⟨ht, hE⟩ := elemTI_array hty hi rfl he
    have hy' := rd_int hy
    have hexec : ∀ {v u}, a.eval x = u → (Instr.indexAt t u (.int k i)).run P w = .ok v w → (execOp a.eval o).run P w = .ok (.value v) w := by
      intro v u hu h
      simp [execOp, ho, hu, hy', h]
    split
    · rename_i b off
      intro hobl
      simp only [Rd.run] at hobl ⊢
      obtain ⟨h0, h1⟩ := hobl
      obtain ⟨B, hB, hp⟩ := hx
      exact Good.val (m' := m) (hexec hp (run_indexAt_array ht hE h0 h1)) R ⟨B, hB, rfl⟩
    · rename_i l off
      intro hobl
      simp only [Rd.run] at hobl ⊢
      obtain ⟨h0, h1⟩ := hobl
      obtain ⟨B, q, hp, hB, hS, hc⟩ := hx
      exact Good.val (m' := m) (hexec hp (run_indexAt_array ht hE h0 h1)) R ⟨B, q, by rw [Nat.add_assoc], hB, hS, hc⟩
    · exact bad_elim
  · exact bad_elim

theorem good_index (hty : TyOk P ty) (R : Rel cx st m a w) {t : Nat} {x y : Operand} (ho : o.op = .index t x y) (hobl : ((evIndex ty t (valOf st x) (valOf st y)).run st).obl) :
    Good P cx st a w o ((evIndex ty t (valOf st x) (valOf st y)).run st) := by
  have hx := R.val x
  have hy := R.val y
  generalize valOf st x = ax at *
  generalize valOf st y = ay at *
  revert hobl
  unfold evIndex
  split
  · rename_i sz by' ag ze n e en ie k i l hi he
    obtain ⟨ht, hE⟩ := elemTI_array hty hi rfl he
    have hy' := rd_int hy
    obtain ⟨vs, hv, hsz, hc⟩ := hx
    split
    · rename_i hpos
      have h0 : 0 ≤ i := by omega
      have hrun : ∀ v, i < n → (part e vs (i.toNat * ie.size)).run P w = .ok v w → (execOp a.eval o).run P w = .ok (.value v) w := by
        intro v h1 h
        simp [execOp, ho, hy', hv, Instr.index, asIntOf, run_underlying ht, h0, h1, hE.size_run, h]
      split
      · rename_i ha
        intro hobl
        simp only [Rd.run] at hobl ⊢
        obtain ⟨h1, h2⟩ := hobl
        have hl : ((loadD ie (i.toNat * ie.size) l).run st) = ⟨i.toNat * ie.size + ie.size ≤ l.length, .agg ((l.drop (i.toNat * ie.size)).take ie.size), []⟩ := by simp [loadD, ha, Rd.run]
        obtain ⟨v, hr, hra, hw⟩ := part_rel (P := P) (cx := cx) (st := st) (m := m) (w := w) (lb := lk st.lb) hE hsz hc (off := i.toNat * ie.size) (by rw [hl]; exact h2)
        rw [hl] at hra
        exact Good.val (m' := m) (hrun v h1 hr) R hra
      · rename_i ha
        intro hobl
        simp only [Rd.run] at hobl ⊢
        obtain ⟨h1, h2, h3⟩ := hobl
        have hl : ((loadD ie (i.toNat * ie.size) l).run st) = ⟨i.toNat * ie.size < l.length, .c (l.getD (i.toNat * ie.size) .undef), []⟩ := by simp [loadD, ha, Rd.run]
        obtain ⟨v, hr, hra, hw⟩ := part_rel (P := P) (cx := cx) (st := st) (m := m) (w := w) (lb := lk st.lb) hE hsz hc (off := i.toNat * ie.size) (by rw [hl]; simpa [h2] using h3)
        rw [hl, h2, Nat.mul_one] at hra
        exact Good.val (m' := m) (hrun v h1 hr) R hra
    · exact bad_elim
  · exact bad_elim

theorem good_extract (R : Rel cx st m a w) {x : Operand} {i : Nat} (ho : o.op = .extract x i) {l : List AU} (hx : RA cx m w (lk st.lb) (.tup l) (a.eval x)) (hi : i < l.length) :
    Good P cx st a w o ⟨i < l.length, .u (l.getD i default), []⟩ := by
  obtain ⟨vs, hv, hsz, hc⟩ := hx
  obtain ⟨u, hu, hr⟩ := hc i hi
  refine Good.val (m' := m) (w' := w) (v := u) ?_ R hr
  simp [execOp, ho, hv, Instr.extract, hu]

theorem good_nilCheck (R : Rel cx st m a w) {x : Operand} {p : Addr} {v : AV} (ho : o.op = .nilCheck x) (hx : RA cx m w (lk st.lb) v (a.eval x)) (hp : a.eval x = .pointer (some p)) :
    Good P cx st a w o ((okv v).run st) :=
  good_okv R (u := a.eval x) (by simp [execOp, ho, hp]) hx

theorem binD_run {op : BinOp} {k : IntKind} {x y : Int} {d : D} {p : Prop} (h : binD op k x y = some (d, p)) (hp : p) (t : Nat) :
    ∃ v, (binOp op t (.int k x) (.int k y)).run P w = .ok v w ∧ ∀ S, RD w S d v := by
  cases op <;> simp only [binD, Option.some.injEq, Prod.mk.injEq, reduceCtorEq] at h <;> obtain ⟨rfl, rfl⟩ := h
  case quo => exact ⟨_, by simp [binOp, Op.intDiv, hp], fun S => .int _ _⟩
  case rem => exact ⟨_, by simp [binOp, Op.intDiv, hp], fun S => .int _ _⟩
  case shr => exact ⟨_, by simp [binOp, shift_shr k k x y hp.1 hp.2], fun S => .int _ _⟩
  all_goals first
    | exact ⟨_, by simp [binOp, Op.intArith], fun S => .int _ _⟩
    | exact ⟨_, by simp [binOp, Op.intCmp], fun S => .bool _⟩

theorem eqGuard_int (op : BinOp) (t : Nat) (x y : Operand) (k k' : IntKind) (p q : Int) : (eqGuard op t x y (.int k p) (.int k' q)).run P w = .ok () w := by
  cases op <;> simp [eqGuard]
theorem eqGuard_bool (op : BinOp) (t : Nat) (x y : Operand) (p q : Bool) : (eqGuard op t x y (.bool p) (.bool q)).run P w = .ok () w := by
  cases op <;> simp [eqGuard]

theorem run_eql_bool {t : Nat} (h : P.underlying t = some .bool) (p q : Bool) : (binOp .eql t (.bool p) (.bool q)).run P w = .ok (.bool (p == q)) w := by
  simp only [binOp]
  simp only [Op.equal, Op.maxDepth, Sem.run_bind, run_equalIn_bool' w 9999 t p q h, Result.andThen_ok, Sem.run_pure]
theorem run_neq_bool {t : Nat} (h : P.underlying t = some .bool) (p q : Bool) : (binOp .neq t (.bool p) (.bool q)).run P w = .ok (.bool (!(p == q))) w := by
  simp only [binOp]
  simp only [Op.equal, Op.maxDepth, Sem.run_bind, run_equalIn_bool' w 9999 t p q h, Result.andThen_ok, Sem.run_pure]

theorem eqCells_ints {lb : Nat → Option Lab} {l r : List AC} {e : Bool} (h : eqCells l r = some e) {vs us : Array Value} (h1 : vs.size = l.length) (h2 : us.size = r.length)
    (g1 : ∀ j, j < l.length → ∃ u, vs[j]? = some u ∧ RCl cx m w lb (l.getD j .undef) u) (g2 : ∀ j, j < r.length → ∃ u, us[j]? = some u ∧ RCl cx m w lb (r.getD j .undef) u) :
    ∃ xs ys, vs = ints xs ∧ us = ints ys ∧ xs.length = l.length ∧ ys.length = r.length ∧ e = decide (xs = ys) := by
  obtain ⟨vs⟩ := vs
  obtain ⟨us⟩ := us
  simp only [List.size_toArray, List.getElem?_toArray] at *
  induction l generalizing r e vs us with
  | nil =>
    cases r with
    | nil =>
      simp only [eqCells, Option.some.injEq] at h
      subst h
      exact ⟨[], [], by simp at h1; simp [h1, ints], by simp at h2; simp [h2, ints], rfl, rfl, rfl⟩
    | cons y r => simp [eqCells] at h
  | cons x l ih =>
    unfold eqCells at h
    split at h
    · exact absurd ‹_ :: _ = []› (by simp)
    · rename_i p l' q r' heq
      obtain ⟨rfl, rfl⟩ := by simpa using heq
      simp only [Option.map_eq_some_iff] at h
      obtain ⟨e', he', rfl⟩ := h
      cases vs with
      | nil => simp at h1
      | cons v vs =>
        cases us with
        | nil => simp at h2
        | cons u us =>
          obtain ⟨xs, ys, e1, e2, e3, e4, e5⟩ := ih he' vs us (by simpa using h1) (fun j hj => by simpa using g1 (j + 1) (by simpa using hj)) (by simpa using h2) (fun j hj => by simpa using g2 (j + 1) (by simpa using hj))
          obtain ⟨v', hv', hr1⟩ := g1 0 (by simp)
          obtain ⟨u', hu', hr2⟩ := g2 0 (by simp)
          simp only [List.length_cons, Nat.zero_lt_succ, List.getElem?_cons_zero, Option.some.injEq, List.getD_cons_zero] at hv' hu' hr1 hr2
          subst hv' hu'
          have e6 := rd_int hr1
          have e7 := rd_int hr2
          refine ⟨p :: xs, q :: ys, ?_, ?_, by simp [e3], by simp [e4], ?_⟩
          · simp [ints] at e1 ⊢; exact ⟨e6, e1⟩
          · simp [ints] at e2 ⊢; exact ⟨e7, e2⟩
          · rw [e5]
            by_cases hpq : p = q <;> simp [hpq]
    · cases h

theorem good_bin (hty : TyOk P ty) (R : Rel cx st m a w) {op : BinOp} {t yt : Nat} {x y : Operand} (ho : o.op = .binOp op t x y yt) (hobl : ((evBin ty op t (valOf st x) (valOf st y)).run st).obl) :
    Good P cx st a w o ((evBin ty op t (valOf st x) (valOf st y)).run st) := by
  have hx := R.val x
  have hy := R.val y
  generalize valOf st x = ax at *
  generalize valOf st y = ay at *
  revert hobl
  unfold evBin
  split
  · rename_i j p k q
    have hx' := rd_int hx
    have hy' := rd_int hy
    split
    · rename_i hjk
      subst hjk
      split
      · rename_i v pr hv
        intro hobl
        simp only [Rd.run] at hobl ⊢
        obtain ⟨u, hu, hr⟩ := binD_run (P := P) (w := w) hv hobl t
        refine Good.val (m' := m) (w' := w) (v := u) ?_ R (hr _)
        simp [execOp, ho, hx', hy', eqGuard_int, hu]
      · exact bad_elim
    · exact bad_elim
  · rename_i p q
    have hx' := rd_bool hx
    have hy' := rd_bool hy
    split
    · rename_i sz by' ag ze en hi
      have hu := (hty t _ hi).und
      split
      · intro _
        refine good_okv R (u := .bool (p == q)) ?_ (RD.bool _)
        simp only [execOp, ho, hx', hy', Sem.run_bind, eqGuard_bool, run_eql_bool hu, Result.andThen_ok, Sem.run_pure]
      · intro _
        refine good_okv R (u := .bool (!(p == q))) ?_ (RD.bool _)
        simp only [execOp, ho, hx', hy', Sem.run_bind, eqGuard_bool, run_neq_bool hu, Result.andThen_ok, Sem.run_pure]
      · exact bad_elim
    · exact bad_elim
  · rename_i l r
    split
    · rename_i sz by' ag ze ds n hi
      split
      · rename_i hlen
        split
        · rename_i e he
          obtain ⟨vs, hv, hs1, hc1⟩ := hx
          obtain ⟨us, hu, hs2, hc2⟩ := hy
          obtain ⟨xs, ys, e1, e2, e3, e4, e5⟩ := eqCells_ints he hs1 hs2 hc1 hc2
          have hE := (hty t _ hi).eq n rfl
          have hrun := hE.run xs ys w (by rw [e3]; exact hlen.1) (by rw [e4]; exact hlen.2)
          rw [← e1, ← e2] at hrun
          split
          · intro _
            refine good_okv R (u := .bool e) ?_ (RD.bool _)
            simp only [execOp, ho, hv, hu, Sem.run_bind, run_eqGuard_agg _ _ _ _ _ _ _ hE.guard, run_eql_struct, hrun, Result.andThen_ok, Sem.run_pure, e5]
          · intro _
            refine good_okv R (u := .bool (!e)) ?_ (RD.bool _)
            simp only [execOp, ho, hv, hu, Sem.run_bind, run_eqGuard_agg _ _ _ _ _ _ _ hE.guard, run_neq_struct, hrun, Result.andThen_ok, Sem.run_pure, e5]
          · exact bad_elim
        · exact bad_elim
      · exact bad_elim
    · exact bad_elim
  · exact bad_elim

theorem good_pick (R : Rel cx st m a w) {x y z : Operand} (ho : o.op = .pick x y z) (hobl : ((evPick (valOf st x) (valOf st y) (valOf st z)).run st).obl) :
    Good P cx st a w o ((evPick (valOf st x) (valOf st y) (valOf st z)).run st) := by
  have hx := R.val x
  have hy := R.val y
  have hz := R.val z
  generalize valOf st x = ax at *
  generalize valOf st y = ay at *
  generalize valOf st z = az at *
  have hun : ∀ {v : AV} {u : AU} {q : Bool} {c : Value}, unstrip v = some (u, q) → RA cx m w (lk st.lb) v c → q = true → RU cx m w (lk st.lb) u c := by
    intro v u q c h hr hq
    cases v with
    | u x =>
      obtain ⟨rfl, rfl⟩ := by simpa [unstrip] using h
      exact hr
    | cnd b x =>
      obtain ⟨rfl, rfl⟩ := by simpa [unstrip] using h
      exact hr.1 hq
    | tup l => simp [unstrip] at h
  revert hobl
  unfold evPick
  split
  · rename_i p yu q zu r h1 h2
    have hx' := rd_bool hx
    have hexec : (execOp a.eval o).run P w = .ok (.value (if p = true then a.eval y else a.eval z)) w := by
      cases p <;> simp [execOp, ho, hx', asBool]
    split
    · rename_i b c
      intro hobl
      simp only [Rd.run] at hobl ⊢
      refine Good.val (m' := m) hexec R ?_
      cases p with
      | true => rw [if_pos rfl]; exact hun h1 hy (hobl.1 rfl)
      | false => rw [if_neg (by simp)]; exact hun h2 hz (hobl.2 rfl)
    · rename_i j b k c
      intro hobl
      simp only [Rd.run] at hobl ⊢
      refine Good.val (m' := m) hexec R ?_
      obtain ⟨g1, g2, rfl⟩ := hobl
      cases p with
      | true => rw [if_pos rfl]; exact hun h1 hy (g1 rfl)
      | false => rw [if_neg (by simp)]; exact hun h2 hz (g2 rfl)
    · exact bad_elim
  · exact bad_elim

theorem good_convert (hty : TyOk P ty) (R : Rel cx st m a w) {s d : Nat} {x : Operand} (ho : o.op = .convert s d x) (hs : (ty s).isSome) (hobl : ((evConvert ty d (valOf st x)).run st).obl) :
    Good P cx st a w o ((evConvert ty d (valOf st x)).run st) := by
  have hx := R.val x
  generalize valOf st x = ax at *
  revert hobl
  unfold evConvert
  split
  · rename_i sz by' ag ze k en k' n hi
    intro _
    have hx' := rd_int hx
    obtain ⟨si, hsi⟩ := Option.isSome_iff_exists.1 hs
    refine good_okv R (u := .int k (k.wrap n)) ?_ (RD.int _ _)
    simp [execOp, ho, hx', convert, run_underlying (hty d _ hi).und, run_underlying (hty s _ hsi).und, Conv.intToInt]
  · exact bad_elim

end
end Go.Abs

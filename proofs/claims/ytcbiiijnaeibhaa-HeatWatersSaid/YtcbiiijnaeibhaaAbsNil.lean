/-
  's == nil' of a slice that is known as data alone: either answer, but nil only if it is empty.
-/
import Derived.Test.YtcbiiijnaeibhaaAbsGen
import Derived.Laws.Cover3
set_option linter.unusedVariables false
set_option linter.unusedSimpArgs false
namespace Go.Abs
section
variable {P : Program} {ty : Tys} {tb : Fns} {n : Nat} {draw : List Oper → St → Prop} {fin' : St → Prop} {stop : List K → St → Prop} {k : List K} {st : St} {sus : List AV}
theorem Stop.eqnil (S : Stop P ty tb n draw fin' stop sus) {id : Nat} {o1 o2 : Oper} (t d1 d2 T T' e : Nat) {x : D} {i : TI}
    (h1 : o1.op = .move (.tmp t)) (h1d : o1.dst = some d1) (h1g : o1.guard = none) (h2 : o2.op = .binOp .eql T (.tmp d1) (.const (.slice none 0 0)) T') (h2d : o2.dst = some d2) (h2g : o2.guard = none)
    (hT : ty T = some i) (hi : i.desc = .slice e) (ht : lk st.sl t = some (.c (.d x))) (hx : x.isSl = true) (hd1 : d1 < n) (hd2 : d2 < n)
    (h : ∀ b : Bool, (b = true → x.len = 0) → stop k ((st.slot d1 (.c (.d x))).slot d2 (.c (.d (.bool b))))) : stop (.code (.region id #[o1, o2] false) :: k) st := by
  obtain ⟨cx, Q, rfl, hs, hty, htb, hd0, hfin, rfl⟩ := S.ex
  intro m a w R
  refine wp_region ?_
  show wpOps P #[o1, o2] (SatK P k Q) [0, 1] a w
  obtain ⟨_, hv⟩ := R.slots t _ ht
  have R1 := R.slot (t := d1) (v := .c (.d x)) (u := a.tmps.getD t undef) hd1 hv
  simp only [wpOps]
  have w1 : Region.wanted o1 (yielded #[o1, o2] a.tmps) = true := by simp [Region.wanted, h1g]
  simp only [List.getElem?_toArray, List.getElem?_cons_zero, List.getElem?_cons_succ]
  rw [if_pos w1]
  refine .inl ?_
  unfold Oper.wp
  have e1 : (execOp a.eval o1).run P w = .ok (.value (a.tmps.getD t undef)) w := by simp [execOp, h1, Act.eval]
  rw [e1, Oper.upon_value, h1d]
  have w2 : ∀ a' : Act, Region.wanted o2 (yielded #[o1, o2] a'.tmps) = true := fun a' => by simp [Region.wanted, h2g]
  rw [if_pos (w2 _)]
  refine .inl ?_
  have hx1 := R1.slots d1 (.c (.d x)) (by simp [St.slot, lk])
  generalize hq : (a.put (some d1) (a.tmps.getD t undef)) = a1 at *
  obtain ⟨_, hx2⟩ := hx1
  have hdat : RD w (Sof cx m) x (a1.tmps.getD d1 undef) := hx2
  generalize hu : a1.tmps.getD d1 undef = u at *
  have hsl : ∃ ao l c, u = .slice ao l c ∧ (ao.isNone = true → x.len = 0) := by
    cases hdat with
    | sl0 s g ao cap => exact ⟨ao, 0, cap, rfl, fun _ => rfl⟩
    | sl s n g B o cap f hn hcap hB hS hl hc hr => exact ⟨_, _, _, rfl, fun h => by cases h⟩
    | _ => cases hx
  obtain ⟨ao, l, c, rfl, hao⟩ := hsl
  have hund : P.underlying T = some (.slice e) := by rw [(hty T i hT).und, hi]
  have e2 : (execOp a1.eval o2).run P w = .ok (.value (.bool ao.isNone)) w := by
    simp [execOp, h2, Act.eval, hu, eqGuard, binOp, run_equal_slice_nil w T e ao l c hund]
  rw [e2, Oper.upon_value, h2d]
  exact h ao.isNone hao m _ w (R1.slot (t := d2) (v := .c (.d (.bool ao.isNone))) hd2 (RD.bool _))

/-- what 'slices.Grow' of a nil slice leaves -/
def GrowPost (s : Nat) (w w' : World) (v : Value) : Prop :=
  SameEnv w w' ∧ w.heap.size ≤ w'.heap.size ∧ (∀ B, B < w.heap.size → w'.heap[B]? = w.heap[B]?) ∧
  (v = .slice none 0 0 ∨ ∃ B cap c T, v = .slice (some ⟨B, 0, none⟩) 0 cap ∧ w.heap.size ≤ B ∧ B < w'.heap.size ∧ w'.heap[B]? = some (.cells c T (0, 0)) ∧ c.size = cap * s)
def growG (stop : List K → St → Prop) (k : List K) (t d kk s : Nat) (n : Int) : Prop × St → Prop
  | (p, st1) => p ∧ lk st1.sl t = some (.u (.c (.d (.int .i64 n)))) ∧ lk st1.lb kk = none ∧ stop k ⟨(d, .c (.own kk)) :: st1.sl, st1.bx, (kk, .owned (.sl s 0 fun _ => [])) :: st1.lb⟩

theorem Rel.growN {cx : Cx} {m : Mp} {a : Act} {w w' : World} {st : St} (R : Rel cx st m a w) {s kk : Nat} {v : Value} (hk : lk st.lb kk = none) (h : GrowPost s w w' v) :
    ∃ m', Rel cx ⟨st.sl, st.bx, (kk, .owned (.sl s 0 fun _ => [])) :: st.lb⟩ m' a w' ∧ RA cx m' w' (lk ((kk, Lab.owned (.sl s 0 fun _ => [])) :: st.lb)) (.c (.own kk)) v := by
  obtain ⟨h1, h2, h3, h4⟩ := h
  have key : ∀ ob : Option Nat, (∀ B, ob = some B → w.heap.size ≤ B ∧ B < w'.heap.size ∧ ∃ c T, w'.heap[B]? = some (.cells c T (0, 0))) →
      Rel cx ⟨st.sl, st.bx, (kk, .owned (.sl s 0 fun _ => [])) :: st.lb⟩ ⟨fun k => (match (if k = kk then some (D.sl s 0 fun _ => []) else none) with | some _ => (if k = kk then ob else none) | none => m.own k), m.box⟩ a w' := by
    intro ob hob
    refine R.newLabs (fun k => if k = kk then some (D.sl s 0 fun _ => []) else none) (fun k => if k = kk then ob else none) h2 h1 h3 (fun k x hx => ?_) (fun k hx => ?_) (fun k k' B e e' => ?_)
    · split at hx
      · rename_i e; subst e
        obtain rfl := Option.some.inj hx
        refine ⟨hk, lk_same _ _ _, rfl, fun B hB => ?_⟩
        simp only [if_true] at hB
        obtain ⟨g1, g2, c, T, g3⟩ := hob B hB
        exact ⟨g1, g2, c, T, g3, rfl, fun i hi => absurd hi (by simp [D.len])⟩
      · cases hx
    · split at hx
      · cases hx
      · rename_i e
        exact ⟨lk_other e, by simp [e]⟩
    · split at e <;> split at e'
      · rename_i q q'; rw [q, q']
      · cases e'
      · cases e
      · cases e
  rcases h4 with rfl | ⟨B, cap, c, T, rfl, g1, g2, g3, g4⟩
  · refine ⟨_, key none (fun B h => by cases h), ?_⟩
    simp only [RA, RU, RCl, lk_same, Hdl, if_true]
    exact ⟨trivial, rfl⟩
  · refine ⟨_, key (some B) (fun B' h => by obtain rfl := Option.some.inj h; exact ⟨g1, g2, c, T, g3⟩), ?_⟩
    simp only [RA, RU, RCl, lk_same, Hdl, if_true]
    exact ⟨cap, c, T, rfl, g3, g4, Nat.zero_le _⟩

/-- A CALL of 'slices.Grow' on nil. -/
theorem Stop.callGrow (S : Stop P ty tb n draw fin' stop sus) {id : Nat} {ops : Array Oper} (i t d kk s : Nat) {o : Oper} {g : Nat} {fn : Func} {tys : Array Nat} {qn : Int}
    (ho : ops[i]? = some o) (hop : o.op = .call { callee := .value (.func g), args := #[.const (.slice none 0 0), .tmp t], argTypes := tys }) (hg : o.guard = none) (hd : o.dst = some d) (hdn : d < n)
    (hf : P.funcs[g]? = some fn) (hnm : (fn.name == "runtime.NumGoroutine") = false) (hb : fn.body.isNone = false)
    (hC : ∀ w : World, Calls P g #[.slice none 0 0, .int .i64 qn] w fun e w' => ∃ v, e = .returned v ∧ GrowPost s w w' v)
    (h : growG stop (.ops ops (i + 1) :: k) t d kk s qn (evSeq ty tb n (ops.toList.map (·.dst)) (ops.toList.take i) st)) :
    stop (.code (.region id ops false) :: k) st := by
  obtain ⟨cx, Q, rfl, hs, hty, htb, hd0, hfin, rfl⟩ := S.ex
  intro m a w R
  refine wp_region ?_
  have hi : i < ops.size := (Array.getElem?_eq_some_iff.1 ho).1
  have hsplit : List.range ops.size = List.range i ++ i :: restIx ops (i + 1) := by
    have e1 : ops.size = i + ((ops.size - (i + 1)) + 1) := by omega
    conv => lhs; rw [e1, List.range_add, List.range_succ_eq_map]
    simp only [restIx, List.map_cons, List.map_map, Nat.add_zero]
    congr 2
    apply List.map_congr_left
    intro x _
    simp; omega
  rw [hsplit]
  have e := evIdx_mid ty tb cx.nt ops.toList (ops.toList.take i) [] (ops.toList.drop i) st (by simp)
  have e2 : (ops.toList.take i).length = i := by simp; omega
  simp only [e2, List.length_nil, Nat.zero_add, List.map_id'] at e
  rw [← e] at h
  generalize hq : evIdx ty tb cx.nt ops.toList (List.range i) st = q at h
  obtain ⟨p, st1⟩ := q
  obtain ⟨hp, hx, hk, h⟩ := h
  refine ops_app hty htb (List.range i) st m a w R (by rw [hq]; exact hp) (fun m1 a1 w1 R1 => ?_)
  rw [hq] at R1
  simp only [wpOps, ho]
  rw [if_pos (by simp [Region.wanted, hg])]
  refine .inl ?_
  have hxv : a1.eval (.tmp t) = .int .i64 qn := rd_int (R1.slots t _ hx).2
  have hexec : (execOp a1.eval o).run P w1 = .ok (.enter g #[.slice none 0 0, .int .i64 qn]) w1 := by
    simp only [execOp, hop, resolve, Deferred.ofValue, Sem.run_bind, Sem.run_pure, Result.andThen_ok, invoke, Array.empty_append, Act.eval] at hxv ⊢
    simp only [List.map_toArray, List.map_cons, List.map_nil, Array.append_empty]
    have e3 : a1.eval (.tmp t) = .int .i64 qn := hxv
    have e4 : a1.eval (.const (.slice none 0 0)) = .slice none 0 0 := rfl
    rw [e3, e4]
    exact run_callFunc hf hnm hb _
  unfold Oper.wp
  rw [hexec, Oper.upon_enter]
  refine (hC w1).mono ?_
  rintro e w2 ⟨v, rfl, hL⟩
  obtain ⟨m2, R2, hr⟩ := R1.growN hk hL
  rw [hd]
  exact h m2 _ w2 (R2.slot (t := d) (v := .c (.own kk)) hdn hr)
attribute [go_sem] growG
end
end Go.Abs

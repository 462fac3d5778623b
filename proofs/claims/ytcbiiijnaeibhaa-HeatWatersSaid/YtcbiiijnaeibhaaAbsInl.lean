/-
  Calls whose callee's body runs in place: the callee sees the caller's boxes and labels, and may change them.
-/
import Derived.Test.YtcbiiijnaeibhaaAbsEqv
set_option linter.unusedVariables false
set_option linter.unusedSimpArgs false
namespace Go.Abs

def capAV : Cap → AV
  | .ref b off => .c (.ref b off)
  | .sptr l off => .c (.sptr l off)
def inSl : Nat → List AV → List (Nat × AV)
  | _, [] => []
  | i, v :: r => (i, v) :: inSl (i + 1) r
def keptSl (sl : List (Nat × AV)) : List Nat → List (Nat × AV)
  | [] => []
  | t :: r => match lk sl t with
    | some v => (t, v) :: keptSl sl r
    | none => keptSl sl r
def retAV : List AU → AV
  | [x] => .u x
  | l => .tup l
def snds : List (Nat × AV) → List AV
  | [] => []
  | p :: r => p.2 :: snds r
theorem snds_map : ∀ l, snds l = l.map (·.2)
  | [] => rfl
  | p :: r => by simp [snds, snds_map r]

theorem evIdx_mid (ty : Tys) (tb : Fns) (nt : Nat) (ops : List Oper) : ∀ (r p q : List Oper) (st : St), ops = p ++ r ++ q → evIdx ty tb nt ops ((List.range r.length).map (p.length + ·)) st = evSeq ty tb nt (ops.map (·.dst)) r st
  | [], p, q, st, _ => rfl
  | o :: r, p, q, st, h => by
    have hl : (List.range (o :: r).length).map (p.length + ·) = p.length :: (List.range r.length).map ((p ++ [o]).length + ·) := by
      rw [List.length_cons, List.range_succ_eq_map, List.map_cons, List.map_map]
      simp only [List.length_append, List.length_singleton, Nat.add_zero]
      congr 1
      apply List.map_congr_left
      intro x _
      simp; omega
    have ho : ops[p.length]? = some o := by rw [h, List.append_assoc, List.getElem?_append_right (Nat.le_refl _)]; simp
    rw [hl]
    simp only [evIdx, ho, evSeq]
    rw [evIdx_mid ty tb nt ops r (p ++ [o]) q _ (by rw [h]; simp)]

section
variable {P : Program} {ty : Tys} {tb : Fns} {cx : Cx} {st : St} {m m1 m' : Mp} {a : Act} {w w' : World} {o : Oper} {out : Out} {ws : List Wr}

theorem ops_app (hty : TyOk P ty) (htb : FnsOk P tb) {ops : Array Oper} {Q : Exit → Act → World → Prop} {l' : List Nat} (l : List Nat) : ∀ (st : St) (m : Mp) (a : Act) (w : World), Rel cx st m a w → (evIdx ty tb cx.nt ops.toList l st).1 →
    (∀ m' a' w', Rel cx (evIdx ty tb cx.nt ops.toList l st).2 m' a' w' → wpOps P ops Q l' a' w') → wpOps P ops Q (l ++ l') a w := by
  induction l with
  | nil => intro st m a w R _ h; exact h m a w R
  | cons i l ih =>
    intro st m a w R h1 h2
    simp only [List.cons_append, wpOps]
    simp only [evIdx, Array.getElem?_toList] at h1 h2
    cases ho : ops[i]? with
    | none => simp only [ho] at h1 h2; exact ih st m a w R h1 h2
    | some o =>
      simp only [ho] at h1 h2
      exact step_good hty htb R h1.1 (fun m' a' w' R' => ih _ m' a' w' R' h1.2 h2)

theorem ret_run (hty : TyOk P ty) (R : Rel cx st m a w) {fn : Func} (h : (retAll ty st fn.results.toList).1) :
    ∃ v, (results fn a.tmps).run P w = .ok v w ∧ RA cx m w (lk st.lb) (retAV (retAll ty st fn.results.toList).2) v := by
  obtain ⟨vs, g1, g2, g3, g4⟩ := retAll_run (P := P) hty R h
  have hrun : (fn.results.mapM (resSem a.tmps)).run P w = .ok vs.toArray w := by
    rw [Array.mapM_eq_mapM_toList]
    simp only [Sem.run_map, g1, Result.andThen_ok]
  refine ⟨_, by rw [results_eq, Sem.run_bind, hrun]; rfl, ?_⟩
  rw [← g3] at g2 g4
  generalize (retAll ty st fn.results.toList).2 = xs at *
  match xs, vs, g2, g4 with
  | [x], [v], _, g4 =>
    obtain ⟨u, hu, hr⟩ := g4 0 (by simp)
    obtain rfl : v = u := by simpa using hu
    exact hr
  | [], [], _, _ => exact ⟨#[], rfl, rfl, fun i hi => absurd hi (by simp)⟩
  | x :: y :: r, vs, g2, g4 =>
    rw [dif_neg (by simp [g2])]
    exact ⟨vs.toArray, rfl, by simpa using g2, fun i hi => by
      obtain ⟨u, hu, hr⟩ := g4 i hi
      exact ⟨u, by simpa using hu, hr⟩⟩
  | [_], [], h, _ => cases h
  | [_], _ :: _ :: _, h, _ => simp at h
  | [], _ :: _, h, _ => cases h

theorem lk_inSl : ∀ {l : List AV} {i t : Nat} {v : AV}, lk (inSl i l) t = some v → ∃ j, l[j]? = some v ∧ t = i + j
  | [], _, _, _, h => by cases h
  | x :: r, i, t, v, h => by
    simp only [inSl, lk] at h
    split at h
    · rename_i e
      obtain rfl := Option.some.inj h
      exact ⟨0, rfl, by omega⟩
    · obtain ⟨j, h1, h2⟩ := lk_inSl h
      exact ⟨j + 1, by simpa using h1, by omega⟩
theorem lk_kept : ∀ {sl : List (Nat × AV)} {ts : List Nat} {t : Nat} {v : AV}, lk (keptSl sl ts) t = some v → lk sl t = some v ∧ (t, v) ∈ keptSl sl ts
  | sl, [], _, _, h => by cases h
  | sl, t0 :: r, t, v, h => by
    simp only [keptSl] at h ⊢
    split at h
    · rename_i u hu
      simp only [lk] at h
      split at h
      · rename_i e; subst e; obtain rfl := Option.some.inj h
        exact ⟨hu, by simp⟩
      · obtain ⟨h1, h2⟩ := lk_kept h
        exact ⟨h1, List.mem_cons_of_mem _ h2⟩
    · rename_i hu
      obtain ⟨h1, h2⟩ := lk_kept h
      exact ⟨h1, h2⟩
theorem mem_kept : ∀ {sl : List (Nat × AV)} {ts : List Nat} {p : Nat × AV}, p ∈ keptSl sl ts → lk sl p.1 = some p.2
  | sl, [], _, h => by cases h
  | sl, t0 :: r, p, h => by
    simp only [keptSl] at h
    split at h
    · rename_i u hu
      rcases List.mem_cons.1 h with rfl | h
      · exact hu
      · exact mem_kept h
    · exact mem_kept h
theorem valsOf_map (st : St) : ∀ l : List Operand, valsOf st l = l.map (valOf st)
  | [] => rfl
  | x :: r => by simp [valsOf, valsOf_map st r]

/-- the end of a callee that runs in place -/
def inlFin (ty : Tys) (rs : List ResultVar) (stop : List K → St → Prop) (k : List K) (kept : List (Nat × AV)) (dst : Option Nat) (s : St) : Prop :=
  (retAll ty s rs).1 ∧ stop k ((⟨kept, s.bx, s.lb⟩ : St).done dst ⟨True, retAV (retAll ty s rs).2, []⟩)
def inlG (P : Program) (ty : Tys) (tb : Fns) (n' : Nat) (draw' : List Oper → St → Prop) (stop : List K → St → Prop) (k : List K) (sus : List AV) (ts : List Nat) (dst : Option Nat) (g : Nat) (caps : List Cap) (rs : List ResultVar) (c : Code) (x : Operand) (args : List Operand) : Prop × St → Prop
  | (p, st1) => p ∧ valOf st1 x = .u (.c (.clo g caps)) ∧ ∀ stop', Stop P ty tb n' draw' (inlFin ty rs stop k (keptSl st1.sl ts) dst) stop' (sus ++ snds (keptSl st1.sl ts)) → stop' [.code c] ⟨inSl 0 (valsOf st1 args ++ caps.map capAV), st1.bx, st1.lb⟩

/-- A CALL IN PLACE. -/
theorem Stop.inl {n n' : Nat} {draw draw' : List Oper → St → Prop} {fin' : St → Prop} {stop : List K → St → Prop} {sus : List AV} (S : Stop P ty tb n draw fin' stop sus) {id : Nat} {ops : Array Oper} {k : List K}
    (i : Nat) (ts : List Nat) {o : Oper} {g : Nat} (caps : List Cap) {fn : Func} {c : Code} {x : Operand} {args : Array Operand} {tys : Array Nat}
    (hf : P.funcs[g]? = some fn) (hnm : (fn.name == "runtime.NumGoroutine") = false) (hb : fn.body = some c) (hn : fn.ntmps = n') (hdraw : ∀ cx, cx.nt = n' → DrawOk P ty tb cx draw')
    (d : Option Nat) (ho : ops[i]? = some o) (hop : o.op = .call { callee := .value x, args := args, argTypes := tys }) (hg : o.guard = none) (hdd : o.dst = d) (hd : dstOk n d) (hlen : args.size + caps.length ≤ n')
    (h : inlG P ty tb n' draw' stop (.ops ops (i + 1) :: k) sus ts d g caps fn.results.toList c x args.toList (evSeq ty tb n (ops.toList.map (·.dst)) (ops.toList.take i) st)) :
    stop (.code (.region id ops false) :: k) st := by
  subst hdd
  obtain ⟨cx, Q, rfl, hs, hty, htb, hd0, hfin, rfl⟩ := S.ex
  intro m a w R
  refine wp_region ?_
  have hi : i < ops.size := (Array.getElem?_eq_some_iff.1 ho).1
  have hsplit : List.range ops.size = List.range i ++ i :: restIx ops (i + 1) := by
    have e1 : ops.size = i + ((ops.size - (i + 1)) + 1) := by omega
    conv => lhs; rw [e1, List.range_add, List.range_succ_eq_map]
    simp only [restIx, List.map_cons, List.map_map, Nat.add_zero]
    congr 2
    apply List.map_congr_left
    intro x _
    simp; omega
  rw [hsplit]
  have e := evIdx_mid ty tb cx.nt ops.toList (ops.toList.take i) [] (ops.toList.drop i) st (by simp)
  have e2 : (ops.toList.take i).length = i := by simp; omega
  simp only [e2, List.length_nil, Nat.zero_add, List.map_id'] at e
  rw [← e] at h
  generalize hq : evIdx ty tb cx.nt ops.toList (List.range i) st = q at h
  obtain ⟨p, st1⟩ := q
  obtain ⟨hp, hx, h⟩ := h
  refine ops_app hty htb (List.range i) st m a w R (by rw [hq]; exact hp) (fun m1 a1 w1 R1 => ?_)
  rw [hq] at R1
  simp only [wpOps, ho]
  rw [if_pos (by simp [Region.wanted, hg])]
  refine .inl ?_
  have hxv := R1.val x
  simp only [hx] at hxv
  obtain ⟨vs, hv, hvs, hvc⟩ := hxv
  have hexec : (execOp a1.eval o).run P w1 = .ok (.enter g ((args.map a1.eval) ++ vs)) w1 := by
    simp only [execOp, hop, resolve, hv, Deferred.ofValue, Sem.run_bind, Sem.run_pure, Result.andThen_ok, invoke, Array.empty_append]
    exact run_callFunc hf hnm (by rw [hb]; rfl) _
  unfold Oper.wp
  rw [hexec, Oper.upon_enter]
  refine calls_of_wp hf hb ?_
  let cx' : Cx := { cx with nt := n', sus := cx.sus ++ (keptSl st1.sl ts).map fun q => (q.2, a1.tmps.getD q.1 undef) }
  have R2 : Rel cx' ⟨inSl 0 (valsOf st1 args.toList ++ caps.map capAV), st1.bx, st1.lb⟩ m1 { tmps := (args.map a1.eval ++ vs) ++ Array.replicate (fn.ntmps - (args.map a1.eval ++ vs).size) undef, defers := [] } w1 := by
    refine { defers := rfl, nt := ?_, env := R1.env, size := R1.size, old := R1.old, s0 := R1.s0, slots := fun t v ht => ?_, sus := fun q hq => ?_, boxes := R1.boxes, nobox := R1.nobox, owned := R1.owned, noown := R1.noown,
             ownb := R1.ownb, boxb := R1.boxb, injo := R1.injo, injb := R1.injb, dis := R1.dis }
    · simp [cx', hn, hvs]; omega
    · obtain ⟨j, hj, e⟩ := lk_inSl ht
      obtain rfl : t = j := by omega
      have hlt := (List.getElem?_eq_some_iff.1 hj).1
      simp only [List.length_append, List.length_map, valsOf_map, Array.length_toList] at hlt
      refine ⟨by show t < n'; omega, ?_⟩
      have hsz : t < (args.map a1.eval ++ vs).size := by simp [hvs]; exact hlt
      have hget : ((args.map a1.eval ++ vs) ++ Array.replicate (fn.ntmps - (args.map a1.eval ++ vs).size) undef).getD t undef = (args.map a1.eval ++ vs).getD t undef := by
        rw [Array.getD_eq_getD_getElem?, Array.getElem?_append_left hsz, Array.getD_eq_getD_getElem?]
      show RA cx' m1 w1 _ v (Array.getD _ _ _)
      rw [hget]
      by_cases hta : t < args.size
      · rw [List.getElem?_append_left (by simpa [valsOf_map] using hta), valsOf_map, List.getElem?_map, Option.map_eq_some_iff] at hj
        obtain ⟨y, hy, rfl⟩ := hj
        have e3 : (args.map a1.eval ++ vs).getD t undef = a1.eval y := by
          rw [Array.getD_eq_getD_getElem?, Array.getElem?_append_left (by simpa using hta), Array.getElem?_map]
          rw [Array.getElem?_toList] at hy
          simp [hy]
        rw [e3]; exact R1.val y
      · rw [List.getElem?_append_right (by simp [valsOf_map]; omega), List.getElem?_map, Option.map_eq_some_iff] at hj
        obtain ⟨y, hy, rfl⟩ := hj
        simp only [valsOf_map, List.length_map, Array.length_toList] at hy
        obtain ⟨u, hu, hr⟩ := hvc (t - args.size) (by omega)
        have e3 : (args.map a1.eval ++ vs).getD t undef = u := by
          rw [Array.getD_eq_getD_getElem?, Array.getElem?_append_right (by simp; omega)]
          simp [hu]
        rw [e3]
        have e4 : caps.getD (t - args.size) (.ref 0 0) = y := by simp [List.getD_eq_getElem?_getD, hy]
        rw [e4] at hr
        cases y with
        | ref b off => exact hr
        | sptr l off => exact hr
    · rcases List.mem_append.1 hq with hq | hq
      · exact R1.sus q hq
      · obtain ⟨r, hr, rfl⟩ := List.mem_map.1 hq
        exact (R1.slots r.1 r.2 (mem_kept hr)).2
  refine h (AR P cx' (bodyPost P fn _)) ⟨cx', _, rfl, ?_, hty, htb, hdraw cx' rfl, ?_, rfl⟩ _ _ _ R2
  · simp only [cx', List.map_append, hs, List.map_map, snds_map]; rfl
  · intro s m2 a2 w2 R3 hfin2
    obtain ⟨f1, f2⟩ := hfin2
    obtain ⟨v, g1, g2⟩ := ret_run (P := P) hty R3 f1
    have R4 : Rel cx ⟨keptSl st1.sl ts, s.bx, s.lb⟩ m2 a1 w2 := by
      refine { defers := R1.defers, nt := R1.nt, env := R3.env, size := R3.size, old := R3.old, s0 := R3.s0, slots := fun t v ht => ?_, sus := fun q hq => ?_, boxes := R3.boxes, nobox := R3.nobox, owned := R3.owned, noown := R3.noown,
               ownb := R3.ownb, boxb := R3.boxb, injo := R3.injo, injb := R3.injb, dis := R3.dis }
      · obtain ⟨k1, k2⟩ := lk_kept ht
        exact ⟨(R1.slots t v k1).1, R3.sus (v, a1.tmps.getD t undef) (List.mem_append.2 (.inr (List.mem_map.2 ⟨(t, v), k2, rfl⟩)))⟩
      · exact R3.sus q (List.mem_append.2 (.inl hq))
    have R5 := rel_done (st := ⟨keptSl st1.sl ts, s.bx, s.lb⟩) (out := ⟨True, retAV (retAll ty s fn.results.toList).2, []⟩) R4 hd (v := v) g2
    have := f2 m2 (a1.put o.dst v) w2 R5
    exact ⟨⟨R3.defers, v, g1, this⟩, ⟨R3.defers, v, g1, this⟩⟩
end
attribute [go_sem] valsOf capAV inSl keptSl retAV snds inlFin inlG restIx hasN List.take_append_drop
end Go.Abs

/-
  Regions that draw their order: the model's draw is an order that the edges allow; a check that can be computed.
-/
import Derived.Test.YtcbiiijnaeibhaaAbsDraw
import Derived.Orders
set_option linter.unusedVariables false
set_option linter.unusedSimpArgs false
namespace Go.Abs

theorem nodup_le : ∀ (n : Nat) (l : List Nat), l.Nodup → (∀ x ∈ l, x < n) → l.length ≤ n
  | 0, [], _, _ => Nat.le_refl _
  | 0, x :: _, _, h => absurd (h x (by simp)) (by omega)
  | n + 1, l, hn, h => by
    by_cases hm : n ∈ l
    · have h1 := nodup_le n (l.erase n) (hn.erase n) (fun x hx => by
        rw [hn.mem_erase_iff] at hx
        have := h x hx.2
        omega)
      have := List.length_erase_of_mem hm
      omega
    · have := nodup_le n l hn (fun x hx => by
        have := h x hx
        rcases Nat.lt_or_ge x n with h' | h'
        · exact h'
        · exact absurd (by have : x = n := by omega
                           exact this ▸ hx) hm)
      omega

/-- an order of all operations, as the edges of a mode ask for it -/
def okOrd (md : Region.Mode) (ops : List Oper) : List Nat → List Nat → Bool
  | p, [] => (List.range ops.length).all fun i => p.contains i
  | p, i :: r =>
    match ops[i]? with
    | some o => (o.after.toList.all fun e => !Region.binds md e || p.contains e.on) && okOrd md ops (p ++ [i]) r
    | none => false
def topoPick (md : Region.Mode) (ops : List Oper) (p : List Nat) : List Nat → Option Nat
  | [] => none
  | i :: r =>
    match ops[i]? with
    | some o => if (o.after.toList.all fun e => !Region.binds md e || p.contains e.on) = true then some i else topoPick md ops p r
    | none => topoPick md ops p r
def topo (md : Region.Mode) (ops : List Oper) : Nat → List Nat → List Nat → List Nat
  | 0, p, _ => p
  | n + 1, p, r =>
    match topoPick md ops p r with
    | some i => topo md ops n (p ++ [i]) (r.filter fun j => !(j == i))
    | none => p
/-- the edges of a mode let all operations go -/
def Goes (md : Region.Mode) (ops : List Oper) : Prop := ∃ L, okOrd md ops [] L = true

section
variable {ops : Array Oper}

theorem goes_all {md : Region.Mode} {ops : List Oper} {p : List Nat} (hstuck : ∀ i o, ops[i]? = some o → i ∉ p → ∃ e ∈ o.after, Region.binds md e = true ∧ e.on ∉ p) :
    ∀ (L q : List Nat), okOrd md ops q L = true → (∀ y ∈ q, y ∈ p) → ∀ i, i < ops.length → i ∈ p
  | [], q, h, hq, i, hi => by
    simp only [okOrd, List.all_eq_true, List.mem_range] at h
    exact hq i (by simpa using h i hi)
  | x :: r, q, h, hq, i, hi => by
    simp only [okOrd] at h
    split at h
    · rename_i o ho
      simp only [Bool.and_eq_true] at h
      refine goes_all hstuck r (q ++ [x]) h.2 (fun y hy => ?_) i hi
      rcases List.mem_append.1 hy with hy | hy
      · exact hq y hy
      · obtain rfl : y = x := by simpa using hy
        refine Classical.byContradiction fun hm => ?_
        obtain ⟨e, he, hb, hn⟩ := hstuck y o ho hm
        have := List.all_eq_true.1 h.1 e (Array.mem_toList_iff.2 he)
        simp only [hb, Bool.not_true, Bool.false_or, List.contains_iff_mem] at this
        exact hn (hq _ this)
    · cases h

theorem any_binds {md : Region.Mode} {e : Edge} (h : Region.binds .any e = true) : Region.binds md e = true := by
  unfold Region.binds at *
  split at h <;> first | (cases md <;> simp_all; done) | rfl

theorem go_ord {md : Region.Mode} (h : Goes md ops.toList) : ∀ (fuel t : Nat) (listed : Array Bool) (p : List Nat), listed.size = ops.size → (∀ j, j < ops.size → (listed.getD j true = true ↔ j ∈ p)) → p.Nodup → (∀ j ∈ p, j < ops.size) → p.length + fuel = ops.size →
    Ord ops.toList p (Region.linearise.go md ops fuel t listed []) ∧ ∀ i, i < ops.size → i ∈ p ++ Region.linearise.go md ops fuel t listed []
  | 0, t, listed, p, hsz, hl, hn, hb, hf => by
    refine ⟨.nil _, fun i hi => ?_⟩
    simp only [Region.linearise.go, List.reverse_nil, List.append_nil]
    by_cases hm : i ∈ p
    · exact hm
    · have := nodup_le ops.size (i :: p) (List.nodup_cons.2 ⟨hm, hn⟩) (fun x hx => by
        rcases List.mem_cons.1 hx with rfl | hx
        · exact hi
        · exact hb x hx)
      simp only [List.length_cons] at this
      omega
  | fuel + 1, t, listed, p, hsz, hl, hn, hb, hf => by
    simp only [Region.linearise.go]
    generalize hrs : ((List.range ops.size).filter fun i => !listed.getD i true && ((ops[i]?).map (·.after.all fun e => !Region.binds md e || listed.getD e.on false)).getD false) = rs
    have hlis : ∀ j, listed.getD j false = true ↔ j ∈ p := by
      intro j
      by_cases hj : j < ops.size
      · rw [← hl j hj]
        simp only [Array.getD_eq_getD_getElem?]
        rw [Array.getElem?_eq_getElem (by omega)]
        simp
      · have : listed[j]? = none := Array.getElem?_eq_none (by omega)
        simp only [Array.getD_eq_getD_getElem?, this]
        exact ⟨fun h => absurd h (by simp), fun h => absurd (hb j h) hj⟩
    have hready : ∀ i, i ∈ rs ↔ (i < ops.size ∧ i ∉ p ∧ ∃ o, ops[i]? = some o ∧ ∀ e ∈ o.after, Region.binds md e = true → e.on ∈ p) := by
      intro i
      rw [← hrs, List.mem_filter, List.mem_range]
      refine and_congr_right fun hi => ?_
      have ho : ops[i]? = some ops[i] := Array.getElem?_eq_getElem hi
      simp only [Bool.and_eq_true, Bool.not_eq_true', ho, Option.map_some, Option.getD_some]
      have e1 : listed.getD i true = false ↔ i ∉ p := by rw [← hl i hi]; simp
      rw [e1]
      refine and_congr_right fun _ => ?_
      have key : ∀ e ∈ ops[i].after, ((!Region.binds md e || listed.getD e.on false) = true ↔ (Region.binds md e = true → e.on ∈ p)) := by
        intro e _
        rw [Bool.or_eq_true, hlis]
        cases Region.binds md e <;> simp
      rw [Array.all_eq_true']
      exact ⟨fun hx => ⟨_, rfl, fun e he => (key e he).1 (hx e he)⟩, fun ⟨o, hoo, hx⟩ e he => by
        obtain rfl := Option.some.inj hoo
        exact (key e he).2 (hx e he)⟩
    cases hr : rs[t % rs.length]? with
    | none =>
      have hnil : rs = [] := by
        cases rs with
        | nil => rfl
        | cons x xs =>
          have hlt : t % (x :: xs).length < (x :: xs).length := Nat.mod_lt _ (by simp)
          have := List.getElem?_eq_none_iff.1 hr
          omega
      refine ⟨.nil _, fun i hi => ?_⟩
      simp only [List.reverse_nil, List.append_nil]
      obtain ⟨L, hL⟩ := h
      refine goes_all (md := md) (p := p) (fun j o hj hm => ?_) L [] hL (fun y hy => by cases hy) i (by simpa using hi)
      refine Classical.byContradiction fun hno => ?_
      have hjs : j < ops.size := by
        have := (List.getElem?_eq_some_iff.1 hj).1
        simpa using this
      have hin : j ∈ rs := (hready j).2 ⟨hjs, hm, o, by rw [← Array.getElem?_toList]; exact hj, fun e he hbe => Classical.byContradiction fun hne => hno ⟨e, he, hbe, hne⟩⟩
      rw [hnil] at hin
      cases hin
    | some i =>
      simp only []
      rw [linearise_go_acc, List.reverse_singleton, List.singleton_append]
      obtain ⟨hi, hm, o, ho, he⟩ := (hready i).1 (List.mem_of_getElem? hr)
      obtain ⟨g1, g2⟩ := go_ord h fuel (t / rs.length) (listed.setIfInBounds i true) (p ++ [i]) (by simpa using hsz) (fun j hj => by
          simp only [Array.getD_eq_getD_getElem?, Array.getElem?_setIfInBounds]
          split
          · rename_i e; subst e; rw [if_pos (by omega)]; simp
          · rename_i e
            have := hl j hj
            rw [Array.getD_eq_getD_getElem?] at this
            rw [this]; simp [Ne.symm e])
        (by rw [List.nodup_append]; exact ⟨hn, by simp, fun a ha b hb' => by
              have : b = i := by simpa using hb'
              subst this; rintro rfl; exact hm ha⟩)
        (fun j hj => by
          rcases List.mem_append.1 hj with hj | hj
          · exact hb j hj
          · have : j = i := by simpa using hj
            omega) (by simp; omega)
      exact ⟨.cons (by rw [Array.getElem?_toList]; exact ho) hm (fun e he' hbe => he e he' (any_binds hbe)) g1, fun j hj => by simpa using g2 j hj⟩

/-- what the modes ask for -/
def ordChk (ops : List Oper) : Bool :=
  okOrd .any ops [] (List.range ops.length) && (!(ops.any fun x => x.after.toList.any fun e => !Region.binds .any e) || (okOrd .text ops [] (topo .text ops ops.length [] (List.range ops.length)) && okOrd .gc ops [] (topo .gc ops ops.length [] (List.range ops.length))))

theorem schedule_ord (h : ordChk ops.toList = true) (mixed : Bool) (t : Nat) : Ord ops.toList [] (Region.schedule mixed ops t) ∧ ∀ i, i < ops.size → i ∈ Region.schedule mixed ops t := by
  simp only [ordChk, Bool.and_eq_true] at h
  obtain ⟨h1, h2⟩ := h
  have gen : ∀ (md : Region.Mode) (t : Nat), Goes md ops.toList → Ord ops.toList [] (Region.linearise md ops t) ∧ ∀ i, i < ops.size → i ∈ Region.linearise md ops t := by
    intro md t hg
    obtain ⟨g1, g2⟩ := go_ord hg ops.size t (Array.replicate ops.size false) [] (by simp) (fun j hj => by simp [Array.getD_eq_getD_getElem?, hj]) (by simp) (by simp) (by simp)
    refine ⟨g1, fun i hi => ?_⟩
    have := g2 i hi
    rwa [List.nil_append] at this
  unfold Region.schedule
  split
  · exact gen .any t ⟨_, h1⟩
  · rename_i hne
    have hd : Region.departs ops = true := by
      cases hd : Region.departs ops with
      | true => rfl
      | false => rw [hd] at hne; simp at hne
    have hd2 : (ops.toList.any fun x => x.after.toList.any fun e => !Region.binds .any e) = true := by
      simp only [Region.departs] at hd
      simpa using hd
    rw [hd2] at h2
    simp only [Bool.not_true, Bool.false_or, Bool.and_eq_true] at h2
    split
    · exact gen .text _ ⟨_, h2.1⟩
    · exact gen .gc _ ⟨_, h2.2⟩
end

section
variable {ty : Tys} {tb : Fns} {nt : Nat} {ops : List Oper} {st : St}

theorem evSeq_ref : ∀ (r p : List Oper), ops = p ++ r → (evSeq ty tb nt (ops.map (·.dst)) r (refSt ty tb nt ops st p.length)).2 = refSt ty tb nt ops st ops.length ∧
    ((evSeq ty tb nt (ops.map (·.dst)) r (refSt ty tb nt ops st p.length)).1 → ∀ i o, p.length ≤ i → ops[i]? = some o → (stepIdx ty tb nt (ops.map (·.dst)) o (refSt ty tb nt ops st i)).1)
  | [], p, h => by
    have hl : ops.length = p.length := by rw [h]; simp
    refine ⟨by simp only [evSeq, hl], fun _ i o hi ho => ?_⟩
    have := (List.getElem?_eq_some_iff.1 ho).1
    omega
  | o :: r, p, h => by
    have ho : ops[p.length]? = some o := by rw [h, List.getElem?_append_right (Nat.le_refl _)]; simp
    have hs : refSt ty tb nt ops st ((p ++ [o]).length) = (stepIdx ty tb nt (ops.map (·.dst)) o (refSt ty tb nt ops st p.length)).2 := by simp [refSt, ho]
    obtain ⟨g1, g2⟩ := evSeq_ref r (p ++ [o]) (by rw [h]; simp)
    rw [hs] at g1 g2
    refine ⟨by simp only [evSeq]; exact g1, fun hx i o' hi ho' => ?_⟩
    simp only [evSeq] at hx
    by_cases e : i = p.length
    · subst e; rw [ho] at ho'; obtain rfl := Option.some.inj ho'; exact hx.1
    · exact g2 hx.2 i o' (by simp; omega) ho'

abbrev Foot := List Comp × List Comp
/-- what each operation reads and writes -/
def foots (ty : Tys) (tb : Fns) (nt : Nat) (ds : List (Option Nat)) : List Oper → St → List Foot
  | [], _ => []
  | o :: r, st => ((evGuarded ty tb ds o).log st, writes o.dst ((evGuarded ty tb ds o).run st)) :: foots ty tb nt ds r (stepIdx ty tb nt ds o st).2

theorem foots_get : ∀ (r p : List Oper) (i : Nat), ops = p ++ r → i < r.length → (foots ty tb nt (ops.map (·.dst)) r (refSt ty tb nt ops st p.length))[i]? = some (readsAt ty tb nt ops st (p.length + i), writesAt ty tb nt ops st (p.length + i))
  | [], _, _, _, hi => absurd hi (by simp)
  | o :: r, p, i, h, hi => by
    have ho : ops[p.length]? = some o := by rw [h, List.getElem?_append_right (Nat.le_refl _)]; simp
    have hs : refSt ty tb nt ops st ((p ++ [o]).length) = (stepIdx ty tb nt (ops.map (·.dst)) o (refSt ty tb nt ops st p.length)).2 := by simp [refSt, ho]
    cases i with
    | zero => simp [foots, readsAt, writesAt, ho]
    | succ i =>
      have := foots_get r (p ++ [o]) i (by rw [h]; simp) (by simpa using hi)
      rw [hs] at this
      simp only [foots, List.getElem?_cons_succ]
      rw [this]
      simp [Nat.add_assoc, Nat.add_comm 1 i]

def ceq : Comp → Comp → Bool
  | .slot a, .slot b => a == b
  | .box a, .box b => a == b
  | .lab a, .lab b => a == b
  | _, _ => false
theorem ceq_spec {a b : Comp} : ceq a b = true ↔ a = b := by cases a <;> cases b <;> simp [ceq]
def meets (l r : List Comp) : Bool := l.any fun a => r.any fun b => ceq a b
theorem meets_spec {l r : List Comp} {c : Comp} (h1 : c ∈ l) (h2 : c ∈ r) : meets l r = true := by
  simp only [meets, List.any_eq_true]
  exact ⟨c, h1, c, h2, ceq_spec.2 rfl⟩
def clash (g f : Foot) : Bool := meets g.2 f.1 || meets g.2 f.2 || meets g.1 f.2
def okAll (cl : List Nat) (f : Foot) : Nat → List Foot → Bool
  | _, [] => true
  | k, g :: r => (cl.contains k || !clash g f) && okAll cl f (k + 1) r
def clo (prev : List (List Nat)) (es : List Edge) : List Nat := es.flatMap fun e => if Region.binds .any e = true then e.on :: prev.getD e.on [] else []
def chk (prev : List (List Nat)) (pf : List Foot) : List Oper → List Foot → Bool
  | [], [] => true
  | o :: r, f :: fs => okAll (clo prev o.after.toList) f 0 pf && chk (prev ++ [clo prev o.after.toList]) (pf ++ [f]) r fs
  | _, _ => false

theorem okAll_spec {cl : List Nat} {f : Foot} : ∀ {l : List Foot} {k : Nat}, okAll cl f k l = true → ∀ i g, l[i]? = some g → k + i ∈ cl ∨ clash g f = false
  | [], _, _, i, g, hg => by simp at hg
  | x :: r, k, h, i, g, hg => by
    simp only [okAll, Bool.and_eq_true, Bool.or_eq_true, Bool.not_eq_true', List.contains_iff_mem] at h
    cases i with
    | zero => obtain rfl : x = g := by simpa using hg
              exact h.1
    | succ i =>
      rcases okAll_spec h.2 i g (by simpa using hg) with h' | h'
      · exact .inl (by have e : k + (i + 1) = k + 1 + i := by omega
                       rw [e]; exact h')
      · exact .inr h'

theorem chk_spec {fts : List Foot} : ∀ (r p : List Oper) (prev : List (List Nat)) (pf fs : List Foot), ops = p ++ r → fts = pf ++ fs → prev.length = p.length → pf.length = p.length →
    (∀ (k : Nat) (cl : List Nat), prev[k]? = some cl → ∀ x ∈ cl, Pre ops x k) → chk prev pf r fs = true →
    ∀ (j : Nat) (o : Oper), p.length ≤ j → ops[j]? = some o → ∀ (i : Nat) (g f : Foot), i < j → fts[i]? = some g → fts[j]? = some f → Pre ops i j ∨ clash g f = false
  | [], p, prev, pf, fs, hop, hft, hpl, hfl, hcl, hc, j, o, hj, ho => by
    have := (List.getElem?_eq_some_iff.1 ho).1
    rw [hop] at this
    simp at this; omega
  | x :: r, p, prev, pf, [], hop, hft, hpl, hfl, hcl, hc, j, o, hj, ho => by simp [chk] at hc
  | x :: r, p, prev, pf, f0 :: fs, hop, hft, hpl, hfl, hcl, hc, j, o, hj, ho => by
    have hx : ops[p.length]? = some x := by rw [hop, List.getElem?_append_right (Nat.le_refl _)]; simp
    simp only [chk, Bool.and_eq_true] at hc
    obtain ⟨c2, c3⟩ := hc
    have hclo : ∀ y ∈ clo prev x.after.toList, Pre ops y p.length := by
      intro y hy
      simp only [clo, List.mem_flatMap] at hy
      obtain ⟨e, he, hy⟩ := hy
      have he' := Array.mem_toList_iff.1 he
      split at hy
      case isFalse => cases hy
      rename_i hb
      rcases List.mem_cons.1 hy with rfl | hy
      · exact .edge hx he' hb rfl
      · cases hp : prev[e.on]? with
        | none => rw [List.getD_eq_getElem?_getD, hp] at hy; simp at hy
        | some cl =>
          rw [List.getD_eq_getElem?_getD, hp] at hy
          exact .step (hcl _ _ hp y hy) (.edge hx he' hb rfl)
    by_cases e : j = p.length
    · subst e
      rw [hx] at ho; obtain rfl := Option.some.inj ho
      intro i g f hi hg hf
      rw [hft, List.getElem?_append_left (by omega)] at hg
      rw [hft, ← hfl, List.getElem?_append_right (Nat.le_refl _)] at hf
      obtain rfl : f0 = f := by simpa using hf
      rcases okAll_spec c2 i g hg with h | h
      · rw [Nat.zero_add] at h; exact .inl (hclo i h)
      · exact .inr h
    · refine chk_spec r (p ++ [x]) _ (pf ++ [f0]) fs (by rw [hop]; simp) (by rw [hft]; simp) (by simp [hpl]) (by simp [hfl]) (fun k cl hk => ?_) c3 j o (by simp; omega) ho
      rcases Nat.lt_or_ge k prev.length with h | h
      · rw [List.getElem?_append_left h] at hk; exact hcl k cl hk
      · rw [List.getElem?_append_right h] at hk
        have hk0 : k - prev.length = 0 := by
          have := (List.getElem?_eq_some_iff.1 hk).1
          simpa using this
        rw [hk0] at hk
        obtain rfl : clo prev x.after.toList = cl := by simpa using hk
        have : k = p.length := by omega
        rw [this]; exact hclo

end

/-- THE CHECK of a drawn region. -/
def drawn (ty : Tys) (tb : Fns) (nt : Nat) (ops : List Oper) (st : St) : Prop :=
  ordChk ops = true ∧ chk [] [] ops (foots ty tb nt (ops.map (·.dst)) ops st) = true

theorem drawn_ok {P : Program} {ty : Tys} {tb : Fns} {n : Nat} (hty : TyOk P ty) (htb : FnsOk P tb) (cx : Cx) (hn : cx.nt = n) : DrawOk P ty tb cx (drawn ty tb n) := by
  subst hn
  intro id ops st Q m a w R hobl hd hQ
  obtain ⟨hord, hd⟩ := hd
  have hspec := chk_spec (ops := ops.toList) (fts := foots ty tb cx.nt (ops.toList.map (·.dst)) ops.toList st) ops.toList [] [] [] (foots ty tb cx.nt (ops.toList.map fun o => o.dst) ops.toList st) rfl rfl rfl rfl (fun k cl h => by simp at h) hd
  have hfg := fun i (hi : i < ops.toList.length) => foots_get (ty := ty) (tb := tb) (nt := cx.nt) (ops := ops.toList) (st := st) ops.toList [] i rfl hi
  have hlt : ∀ j c, c ∈ writesAt ty tb cx.nt ops.toList st j → j < ops.toList.length := by
    intro j c hc
    cases ho : ops.toList[j]? with
    | none => simp [writesAt, ho] at hc
    | some o => exact (List.getElem?_eq_some_iff.1 ho).1
  have hltr : ∀ j c, c ∈ readsAt ty tb cx.nt ops.toList st j → j < ops.toList.length := by
    intro j c hc
    cases ho : ops.toList[j]? with
    | none => simp [readsAt, ho] at hc
    | some o => exact (List.getElem?_eq_some_iff.1 ho).1
  have hfree : Free ty tb cx.nt ops.toList st := by
    intro i j c hij hcl
    have hj : j < ops.toList.length := by
      rcases hcl with ⟨_, h | h⟩ | ⟨_, h⟩
      · exact hltr j c h
      · exact hlt j c h
      · exact hlt j c h
    have hg := hfg i (by omega)
    have hf := hfg j hj
    simp only [List.length_nil, Nat.zero_add] at hg hf
    rcases hspec j _ (Nat.zero_le _) (List.getElem?_eq_getElem hj) i _ _ hij hg hf with h | h
    · exact h
    · simp only [clash, Bool.or_eq_false_iff] at h
      rcases hcl with ⟨h1, h2 | h2⟩ | ⟨h1, h2⟩
      · rw [meets_spec h1 h2] at h; simp at h
      · rw [meets_spec h1 h2] at h; simp at h
      · rw [meets_spec h1 h2] at h; simp at h
  obtain ⟨e1, e2⟩ := evSeq_ref (ty := ty) (tb := tb) (nt := cx.nt) (ops := ops.toList) (st := st) ops.toList [] rfl
  have e2' := e2 hobl
  simp only [List.length_nil, refSt] at e1
  refine wp_region_draw fun t => ?_
  obtain ⟨o1, o2⟩ := schedule_ord hord (P.follows .mixedOrders) t
  have hl0 : Last ty tb cx.nt ops.toList st (· ∈ ([] : List Nat)) st := fun c => .inr ⟨fun j h => by simp at h, rfl⟩
  obtain ⟨g1, g2⟩ := ord_run hfree (fun i o ho => e2' i o (Nat.zero_le _) ho) o1 st (fun i j h => by simp at h) hl0
  refine ops_sound hty htb _ st m a _ (R.drawn _) g1 (fun m' a' w' R' => hQ m' a' w' ?_)
  have hall : ∀ c, (evIdx ty tb cx.nt ops.toList (Region.schedule (P.follows .mixedOrders) ops t) st).2.get c = (refSt ty tb cx.nt ops.toList st ops.toList.length).get c := by
    intro c
    refine g2.agree (last_ref _) (fun j hw => ?_)
    have := hlt j c hw
    exact ⟨fun _ => this, fun _ => by simpa using o2 j (by simpa using this)⟩
  rw [e1]
  refine Rel.alike R' (fun k => ?_) (fun k => ?_) (fun k => ?_)
  · have := hall (.slot k); simp only [St.get, CV.slot.injEq] at this; exact this.symm
  · have := hall (.box k); simp only [St.get, CV.box.injEq] at this; exact this.symm
  · have := hall (.lab k); simp only [St.get, CV.lab.injEq] at this; exact this.symm

end Go.Abs

import Derived.Test.YtefijdjbhjdhdaaGreatDoorAbsChk
/- What the decompiler's proofs do at each step, said once: side conditions, conditions. -/
set_option linter.unusedVariables false
set_option linter.unusedSimpArgs false
namespace Go.Abs

theorem gA {p q : Prop} (h : q) (hp : p := by first | with_reducible assumption | (with_reducible refine chk_of3 ?_; decide +kernel) | assumption | decide +kernel | (show _ ≠ _; omega) | ((fail_if_success intro _); omega) | (show Eqv _ _; (simp (maxDischargeDepth := 8) [go_sem]; done)) | fail) : p ∧ q := ⟨hp, h⟩
theorem gG {c d p p' q : Prop} (hg : d → p') (h : q) (hc : c → d := by intro hq; first | exact hq | (rw [hq]; rfl) | simpa using hq | fail) (hp : p' → p := by intro h9; first | exact h9 | omega | simpa using h9 | fail) : (c → p) ∧ q := ⟨fun x => hp (hg (hc x)), h⟩
theorem gB {p q : Prop} (h : q) (hp : p := by first | (intro hq; first | exact hq.1 | exact hq | fail) | (intro hq; refine ⟨hq, ?_⟩; intro h2; first | (rw [hq, ← h2]; rfl) | (rw [hq]; simp [h2]; done) | (rw [hq, h2]; done) | (rw [hq, h2]; rfl) | (simp_all; done) | fail) | (simp +contextual; done) | fail) : p ∧ q := ⟨hp, h⟩
theorem ifP {c d : Prop} {inst : Decidable c} {α : Type} {x y r : α} (hr : (if c then x else y) = r) (hd : d) (h : d → c := by intro hc; first | exact hc | exact ne_true_of_eq_false hc | exact eq_false_of_ne_true hc | (rw [hc]; rfl) | (revert hc; simp; done) | simpa using hc | (simp at hc ⊢; omega) | (simp_all; done) | fail) : x = r := by
  rw [← hr, if_pos (h hd)]
theorem ifN {c d : Prop} {inst : Decidable c} {α : Type} {x y r : α} (hr : (if c then x else y) = r) (hd : d) (h : d → ¬ c := by intro hc; first | exact hc | exact ne_true_of_eq_false hc | exact eq_false_of_ne_true hc | (rw [hc]; rfl) | (revert hc; simp; done) | simpa using hc | (simp at hc ⊢; omega) | (simp_all; done) | fail) : y = r := by
  rw [← hr, if_neg (h hd)]
theorem ifP1 {σ ρ : Type} {nx : σ → Prop} {G : ρ → Prop} {c d : Prop} {inst : Decidable c} {x y : Ctl σ ρ} (hr : goodC nx G (if c then x else y)) (hd : d) (h : d → c := by intro hc; first | exact hc | exact ne_true_of_eq_false hc | exact eq_false_of_ne_true hc | (rw [hc]; rfl) | (revert hc; simp; done) | simpa using hc | (simp at hc ⊢; omega) | (simp_all; done) | fail) : goodC nx G x := by
  rwa [if_pos (h hd)] at hr
theorem ifN1 {σ ρ : Type} {nx : σ → Prop} {G : ρ → Prop} {c d : Prop} {inst : Decidable c} {x y : Ctl σ ρ} (hr : goodC nx G (if c then x else y)) (hd : d) (h : d → ¬ c := by intro hc; first | exact hc | exact ne_true_of_eq_false hc | exact eq_false_of_ne_true hc | (rw [hc]; rfl) | (revert hc; simp; done) | simpa using hc | (simp at hc ⊢; omega) | (simp_all; done) | fail) : goodC nx G y := by
  rwa [if_neg (h hd)] at hr
theorem gs {p q : Prop} (h : q) (e : p = q := by simp (maxSteps := 10000000) only [go_sem, Bool.not_true, Bool.not_false, Option.map_some, Int.reduceToNat, Nat.reduceEqDiff, Nat.reduceBEq, Nat.reduceLT, Nat.reduceAdd, Nat.reduceMul, Nat.reduceSub, Nat.reduceLeDiff, ↓reduceIte, reduceCtorEq]; rfl) : p := e ▸ h
theorem lf {p : Prop} (h : p := by simp (maxDischargeDepth := 8) [go_sem, -List.drop_one]) : p := h
section
variable {P : Program} {ty : Tys} {tb : Fns} {n : Nat} {draw : List Oper → St → Prop} {fin' : Jmp → St → Prop} {stop : List K → St → Prop} {sus : List AV}
theorem Stop.gx (S : Stop P ty tb n draw fin' stop sus) (brk : List Nat) {k : List K} {st : St} {q : Prop} (h : q) (e : vc ty tb n draw fin' stop brk 1000 k st = q := by simp (maxSteps := 10000000) only [go_sem, Bool.not_true, Bool.not_false, Option.map_some, Int.reduceToNat, Nat.reduceEqDiff, Nat.reduceBEq, Nat.reduceLT, Nat.reduceAdd, Nat.reduceMul, Nat.reduceSub, Nat.reduceLeDiff, ↓reduceIte, reduceCtorEq]; rfl) : stop k st := S.goB brk 1000 (e ▸ h)
theorem Stop.prune (S : Stop P ty tb n draw fin' stop sus) (ts : List Nat) {k : List K} {st : St} {l : List (Nat × AV)} (h : stop k ⟨l, st.bx, st.lb⟩) (e : keptSl st.sl ts = l := by simp (maxSteps := 10000000) only [go_sem, Bool.not_true, Bool.not_false, Option.map_some, Int.reduceToNat, Nat.reduceEqDiff, Nat.reduceBEq, Nat.reduceLT, Nat.reduceAdd, Nat.reduceMul, Nat.reduceSub, Nat.reduceLeDiff, ↓reduceIte, reduceCtorEq]; rfl) : stop k st :=
  S.weak ⟨keptSl st.sl ts, st.bx, st.lb⟩ (fun cx m a w _ _ R => ⟨m, { R with slots := fun t v h => R.slots t v (lk_kept h).1 }⟩) (e ▸ h)
end
def mkT {α β : Type} [Inhabited β] (e : α → List Arg) (d : List Arg → α) (f : α → Option β) (u : β → List RV) (al : Bool) : TSpec α where
  enc := e
  dec := d
  pre x := (f x).isSome = true
  res x := u ((f x).getD default)
  al := al
attribute [go_sem] mkT
theorem oG {α : Type} {a d : α} : (some a).getD d = a := rfl
theorem oI {α : Type} {a : α} : (some a).isSome = true := rfl
theorem oE {α : Type} {x : Option α} (h : x.isSome = true) : ∃ a, x = some a := Option.isSome_iff_exists.1 h
theorem nL {a b : Nat} (h : Nat.ble a b = true) : a ≤ b := Nat.le_of_ble_eq_true h
theorem ifA {c p : Prop} (h : c → p) {d q : Prop} (h2 : d → q) : (c → p) ∧ (d → q) := ⟨h, h2⟩
end Go.Abs

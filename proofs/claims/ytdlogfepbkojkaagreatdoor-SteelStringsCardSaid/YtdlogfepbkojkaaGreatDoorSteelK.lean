/- Steel: the error of a knot, in the code and in the reference (plain). -/
import Derived.Test.YtdlogfepbkojkaaGreatDoorF01
import Derived.Test.YtdlogfepbkojkaaGreatDoorF05
import Derived.Test.YtdlogfepbkojkaaGreatDoorSteelA
set_option linter.unusedVariables false
set_option linter.unusedSimpArgs false
namespace Go.Proofs.YtdlogfepbkojkaaGreatDoor
open Go.Abs

abbrev Kn := Int × List (Int × Int) × Int
def shOk (x : Int × Int) : Bool := inR x.1 0 1000000 && inR x.2 0 1000000
def orOk (x : Int × Int) : Bool := decide (x.1 ≤ x.2)
/-- the error of a knot by itself -/
def kn1 (k : Kn) : Int := if inR k.1 1 3000 && k.2.1.all shOk && inR k.2.2 0 1000000 then (if k.2.1.all orOk then 0 else 3) else 2
def ascB (dir : Int) (k b : Kn) : Bool :=
  decide (b.1 < k.1) && (decide (dir = 0) || (decide (dir * (b.2.1.getD 0 default).1 ≤ dir * (k.2.1.getD 0 default).1) && decide (dir * (b.2.1.getD 0 default).2 ≤ dir * (k.2.1.getD 0 default).2)))
/-- the error of a knot after another one -/
def knE (dir : Int) (before : Option Kn) (k : Kn) : Int :=
  if kn1 k = 0 then (match before with | none => 0 | some b => if ascB dir k b then 0 else 9) else kn1 k

theorem iter_any {α ρ : Type} [Inhabited α] (l : List α) (b : Int → Ctl Int ρ) (p : α → Bool) (A B : Option ρ) (hl : l.length < 1000000000)
    (step : ∀ i : Nat, i < l.length → b i = if p (l.getD i default) = true then .out A else .next ((i : Int) + 1)) (stop : b l.length = .out B) :
    iterC b 1000000000 0 = if l.any p = true then A else B := by
  have h := iter_list (τ := Unit) l b (fun i _ => i) (fun _ _ x => if p x = true then .out A else .next ()) (fun _ => B) hl
    (fun i t hi => by rw [step i hi]; by_cases hp : p (l.getD i default) = true <;> simp only [hp, if_true, if_false, mapC, Bool.false_eq_true]) (fun t => stop) ()
  rw [h]
  have key : ∀ (r : List α) (i : Int), foldC (fun _ _ x => if p x = true then Ctl.out A else .next ()) (fun _ : Unit => B) i r () = if r.any p = true then A else B := by
    intro r
    induction r with
    | nil => intro i; rfl
    | cons x r ih =>
      intro i
      by_cases hp : p x = true
      · simp only [foldC, hp, if_true, List.any_cons, Bool.true_or]
      · simp only [foldC, if_neg hp, List.any_cons]
        rw [ih]
        simp [hp]
  exact key l 0
theorem p71 (a : Int) : r67 a = some (inR a 0 1000000) := rfl
theorem p109 (a : Int) : r74 a = some (inR a 1 3000) := rfl
theorem p107 (a b : Int) : r112 a b = some (!shOk (a, b)) := by
  unfold r112 shOk
  simp only [p71, Option.bind_some, Option.isSome_some, implies_true, if_true, Option.getD_some, Bool.not_and]
theorem p108 (a b : Int) : r113 a b = some (!orOk (a, b)) := by
  unfold r113 orOk
  congr 1
  by_cases h : a ≤ b
  · have : ¬ b < a := by omega
    simp [h, this]
  · have : b < a := by omega
    simp [h, this]

/-- what is left behind both looks -/
def tlK (k : Kn) (before : Option Kn) (dir : Int) (d1 d2 : Bool) : Option Int :=
  (r74 k.1).bind fun v3 =>
       if (v3 && (!d1)) = true → (r67 k.2.2).isSome = true then
        (r51 ((v3 && (!d1)) && ((r67 k.2.2).getD default)) 2).bind fun v4 =>
         (r51 (!d2) 3).bind fun v5 =>
          (r44 [v4, v5]).bind fun v6 =>
           if ((v6 != 0) || (!before.isSome)) = true then
            some v6
            else if before.isSome = true then
             if before.isSome = true then
              if (dir != 0) = true then
               if 0 ≤ 0 ∧ 0 < (k.2.1.length : Int) then
                if before.isSome = true then
                 if before.isSome = true then
                  if 0 ≤ 0 ∧ 0 < (((before.getD default).2.1).length : Int) then
                   (r51 (((decide (k.1 > ((before.getD default).1))) && (decide ((IntKind.i64.wrap (dir * ((k.2.1.getD 0 default).1))) ≥ (IntKind.i64.wrap (dir * ((((before.getD default).2.1).getD 0 default).1)))))) && (decide ((IntKind.i64.wrap (dir * ((k.2.1.getD 0 default).2))) ≥ (IntKind.i64.wrap (dir * ((((before.getD default).2.1).getD 0 default).2)))))) 9).bind fun v7 =>
                    some v7
                   else none
                  else none
                 else none
                else none
               else (r51 (decide (k.1 > ((before.getD default).1))) 9).bind fun v12 =>
                some v12
              else none
             else none
        else none
theorem kn1_zero {k : Kn} (h : kn1 k = 0) : (1 ≤ k.1 ∧ k.1 ≤ 3000) ∧ (∀ x ∈ k.2.1, shOk x = true) ∧ (0 ≤ k.2.2 ∧ k.2.2 ≤ 1000000) ∧ ∀ x ∈ k.2.1, orOk x = true := by
  unfold kn1 at h
  split at h
  · rename_i h1
    split at h
    · rename_i h2
      simp only [Bool.and_eq_true] at h1
      exact ⟨inR_iff.1 h1.1.1, List.all_eq_true.1 h1.1.2, inR_iff.1 h1.2, List.all_eq_true.1 h2⟩
    · exact absurd h (by decide)
  · exact absurd h (by decide)
theorem shOk_iff {x : Int × Int} : shOk x = true ↔ (0 ≤ x.1 ∧ x.1 ≤ 1000000) ∧ 0 ≤ x.2 ∧ x.2 ≤ 1000000 := by
  unfold shOk; rw [Bool.and_eq_true, inR_iff, inR_iff]
theorem tlK_eq (k : Kn) (before : Option Kn) (dir : Int) (hd : dir = 0 ∨ ((dir = 1 ∨ dir = -1) ∧ k.2.1 ≠ [] ∧ ∀ b, before = some b → b.2.1 ≠ [])) (hb : ∀ b, before = some b → kn1 b = 0) :
    tlK k before dir (k.2.1.any fun x => !shOk x) (k.2.1.any fun x => !orOk x) = some (knE dir before k) := by
  have e1 : (k.2.1.any fun x => !shOk x) = !k.2.1.all shOk := List.not_all_eq_any_not.symm
  have e2 : (k.2.1.any fun x => !orOk x) = !k.2.1.all orOk := List.not_all_eq_any_not.symm
  rw [e1, e2]
  unfold tlK
  simp only [p109, p71, p68, Option.bind_some, Option.isSome_some, implies_true, if_true, Option.getD_some, Bool.not_not]
  rw [p67 _ (by simp), Option.bind_some]
  have e3 : firstV [codeIf (inR k.1 1 3000 && k.2.1.all shOk && inR k.2.2 0 1000000) 2, codeIf (k.2.1.all orOk) 3] = kn1 k := by
    rw [firstV2]
    unfold kn1 codeIf
    by_cases h1 : (inR k.1 1 3000 && k.2.1.all shOk && inR k.2.2 0 1000000) = true
    · rw [if_pos h1, if_pos h1]; simp
    · rw [if_neg h1, if_neg h1]; simp
  rw [e3]
  unfold knE
  by_cases hk : kn1 k = 0
  · rw [if_pos hk, hk]
    cases before with
    | none => simp
    | some b =>
      have vb := kn1_zero (hb b rfl)
      have vk := kn1_zero hk
      simp only [Option.isSome_some, Option.getD_some, bne_self_eq_false, Bool.not_true, Bool.or_false, Bool.false_eq_true, if_false, if_true]
      rcases hd with rfl | ⟨hd, hne, hbne⟩
      · simp only [bne_self_eq_false, Bool.false_eq_true, if_false]
        unfold ascB codeIf
        simp only [decide_true, Bool.true_or, Bool.and_true, gt_iff_lt]
      · have hd0 : dir ≠ 0 := by rcases hd with rfl | rfl <;> decide
        have hbn := hbne b rfl
        have l1 : 0 < k.2.1.length := List.length_pos_iff.2 hne
        have l2 : 0 < b.2.1.length := List.length_pos_iff.2 hbn
        have s1 := shOk_iff.1 (vk.2.1 _ (getD_mem l1))
        have s2 := shOk_iff.1 (vb.2.1 _ (getD_mem l2))
        rw [if_pos (by simpa using hd0), if_pos ⟨by decide, by omega⟩, if_pos ⟨by decide, by omega⟩]
        have w : ∀ z : Int, 0 ≤ z → z ≤ 1000000 → IntKind.i64.wrap (dir * z) = dir * z := fun z h1 h2 => by
          rcases hd with rfl | rfl
          · exact wI (by omega) (by omega)
          · exact wI (by omega) (by omega)
        have e : ((decide (k.1 > b.1) && decide (IntKind.i64.wrap (dir * (k.2.1.getD 0 default).1) ≥ IntKind.i64.wrap (dir * (b.2.1.getD 0 default).1))) && decide (IntKind.i64.wrap (dir * (k.2.1.getD 0 default).2) ≥ IntKind.i64.wrap (dir * (b.2.1.getD 0 default).2))) = ascB dir k b := by
          unfold ascB
          simp only [w _ s1.1.1 s1.1.2, w _ s1.2.1 s1.2.2, w _ s2.1.1 s2.1.2, w _ s2.2.1 s2.2.2, gt_iff_lt, ge_iff_le, decide_eq_false hd0, Bool.false_or, Bool.and_assoc]
        rw [e]
        rfl
  · rw [if_neg hk, if_pos (by simp [hk])]
theorem p63 (k : Kn) (before : Option Kn) (dir : Int) (hl : k.2.1.length < 1000000000) (hd : dir = 0 ∨ ((dir = 1 ∨ dir = -1) ∧ k.2.1 ≠ [] ∧ ∀ b, before = some b → b.2.1 ≠ [])) (hb : ∀ b, before = some b → kn1 b = 0) :
    r88 k.1 k.2.1 k.2.2 before dir = some (knE dir before k) := by
  rw [← tlK_eq k before dir hd hb]
  have h2 : ∀ s : Int, iterC (b88_2 k.1 k.2.1 k.2.2 before dir s) 1000000000 0 = tlK k before dir (decide (s ≥ 0)) (k.2.1.any fun x => !orOk x) := fun s => by
    have := iter_any k.2.1 (b88_2 k.1 k.2.1 k.2.2 before dir s) (fun x => !orOk x) (tlK k before dir (decide (s ≥ 0)) true) (tlK k before dir (decide (s ≥ 0)) false) hl
      (fun i hi => by
        simp only [b88_2, ltN hi, if_true, if_pos (rgN hi), Int.toNat_natCast, wS i (by omega), p108, bindC]
        have e : (decide ((i : Int) ≥ 0)) = true := by simp
        rw [e]; rfl)
      (by simp only [b88_2, geN, Bool.false_eq_true, if_false]; rfl)
    rw [this]
    cases k.2.1.any fun x => !orOk x <;> simp
  have h3 : iterC (b88_3 k.1 k.2.1 k.2.2 before dir) 1000000000 0 = tlK k before dir false (k.2.1.any fun x => !orOk x) := by
    have := iter_any k.2.1 (b88_3 k.1 k.2.1 k.2.2 before dir) (fun x => !orOk x) (tlK k before dir false true) (tlK k before dir false false) hl
      (fun i hi => by
        simp only [b88_3, ltN hi, if_true, if_pos (rgN hi), Int.toNat_natCast, wS i (by omega), p108, bindC]
        have e : (decide ((i : Int) ≥ 0)) = true := by simp
        rw [e]; rfl)
      (by simp only [b88_3, geN, Bool.false_eq_true, if_false]; rfl)
    rw [this]
    cases k.2.1.any fun x => !orOk x <;> simp
  unfold r88
  have := iter_any k.2.1 (b88_1 k.1 k.2.1 k.2.2 before dir) (fun x => !shOk x) (tlK k before dir true (k.2.1.any fun x => !orOk x)) (tlK k before dir false (k.2.1.any fun x => !orOk x)) hl
    (fun i hi => by
      have e : (decide ((i : Int) ≥ 0)) = true := by simp
      simp only [b88_1, ltN hi, if_true, if_pos (rgN hi), Int.toNat_natCast, wS i (by omega), p107, bindC, h2, e])
    (by simp only [b88_1, geN, Bool.false_eq_true, if_false, h3])
  rw [this]
  cases k.2.1.any fun x => !shOk x <;> simp

theorem ordStep {σ ρ : Type} (x : Int × Int) (A B : Ctl σ ρ) : (if (decide (x.1 > x.2)) = true then A else B) = if (!orOk x) = true then A else B := by
  unfold orOk
  by_cases h : x.1 ≤ x.2
  · rw [if_neg (by simp; omega), if_neg (by simp [h])]
  · rw [if_pos (by simp; omega), if_pos (by simp; omega)]
theorem p87 (a : Int) : r94 a = some (inR a 1 3000) := rfl
theorem p112 (a b : Int) : r95 a b = some (shOk (a, b)) := by
  unfold r95 shOk
  simp only [p29, Option.bind_some, Option.isSome_some, implies_true, if_true, Option.getD_some]
/-- the reference's error of a knot -/
theorem p70 (k : Kn) (last : Int) (ord : Bool) (hl : k.2.1.length < 1000000000) :
    r71 k.1 last k.2.1 k.2.2 ord = some (if kn1 k = 0 then (if decide (k.1 ≤ last) || !ord then 9 else 0) else kn1 k) := by
  have h2 : iterC (b71_2 k.1 last k.2.1 ord) 1000000000 0 = some (if k.2.1.all orOk then (if decide (k.1 ≤ last) || !ord then 9 else 0) else 3) := by
    have := iter_any k.2.1 (b71_2 k.1 last k.2.1 ord) (fun x => !orOk x) (some 3) (some (if decide (k.1 ≤ last) || !ord then 9 else 0)) hl
      (fun i hi => by
        simp only [b71_2, ltN hi, if_true, if_pos (rgN hi), Int.toNat_natCast, wS i (by omega)]
        exact ordStep _ _ _)
      (by
        simp only [b71_2, geN, Bool.false_eq_true, if_false]
        by_cases h : (decide (k.1 ≤ last) || !ord) = true <;> simp only [h, if_true, if_false, Bool.false_eq_true])
    rw [this]
    have e2 : (k.2.1.any fun x => !orOk x) = !k.2.1.all orOk := List.not_all_eq_any_not.symm
    rw [e2]
    cases k.2.1.all orOk <;> simp
  have h1 : ∀ a : Bool, iterC (b71_1 k.1 last k.2.1 ord) 1000000000 (a, 0) = if (a && k.2.1.all shOk) = true then some (if k.2.1.all orOk then (if decide (k.1 ≤ last) || !ord then 9 else 0) else 3) else some 2 := fun a => by
    have h := iter_list (τ := Bool) k.2.1 (b71_1 k.1 last k.2.1 ord) (fun i t => (t, i)) (fun _ t x => .next (t && shOk x)) (fun t => if t = true then some (if k.2.1.all orOk then (if decide (k.1 ≤ last) || !ord then 9 else 0) else 3) else some 2) hl
      (fun i t hi => by
        simp only [b71_1, ltN hi, if_true, if_pos (show t = true → _ from fun _ => rgN hi), Int.toNat_natCast, wS i (by omega), p112, Option.isSome_some, implies_true, Option.getD_some, mapC])
      (fun t => by
        simp only [b71_1, geN, Bool.false_eq_true, if_false, h2]
        cases t <;> simp) a
    rw [h]
    have key : ∀ (r : List (Int × Int)) (i : Int) (t : Bool) (A B : Option Int), foldC (fun _ t x => Ctl.next (t && shOk x)) (fun t => if t = true then A else B) i r t = if (t && r.all shOk) = true then A else B := by
      intro r
      induction r with
      | nil => intro i t A B; simp [foldC]
      | cons x r ih =>
        intro i t A B
        show foldC _ _ (i + 1) r (t && shOk x) = _
        rw [ih, List.all_cons, Bool.and_assoc]
    exact key _ _ _ _ _
  unfold r71
  simp only [p87, p29, Option.bind_some, Option.isSome_some, implies_true, if_true, Option.getD_some, h1]
  unfold kn1
  by_cases g1 : inR k.1 1 3000 = true <;> by_cases g2 : inR k.2.2 0 1000000 = true <;> by_cases g3 : k.2.1.all shOk = true <;> by_cases g4 : k.2.1.all orOk = true <;> simp [g1, g2, g3, g4]
end Go.Proofs.YtdlogfepbkojkaaGreatDoor

import Derived.Test.YthldpejmofhaoaaGreatDoorF01
import Derived.Test.YthldpejmofhaoaaGreatDoorF03
import Derived.Test.YthldpejmofhaoaaGreatDoorF04
import Derived.Test.YthldpejmofhaoaaGreatDoorF05
import Derived.Test.YthldpejmofhaoaaGreatDoorAbsC
set_option linter.unusedVariables false
set_option linter.unusedSimpArgs false
namespace Go.Proofs.YthldpejmofhaoaaGreatDoor
open Go.Abs

theorem gS {p : Prop} {α β : Type} {v : α} [Decidable (p → (some v).isSome = true)] {a b : β} : (if p → (some v).isSome = true then a else b) = a := if_pos (fun _ => rfl)
theorem p90 (a b c : Int) : r79 a b c = some (inR a b c) := rfl
theorem p59 (a b c : Int) : r11 a b c = some (inR a b c) := rfl
theorem p94 (b : Bool) (e : Int) : r83 b e = some (codeIf b e) := by
  unfold r83 codeIf; cases b <;> rfl
theorem p91 (l : List Int) (hl : l.length < 1000000000) : r80 l = some (firstV l) := by
  have h := iter_list (τ := Unit) l (b80_1 l) (fun i _ => i) (fun _ _ x => if x = 0 then .next () else .out (some x)) (fun _ => some 0) hl
    (fun i t hi => by
      simp only [b80_1, ltN hi, if_true, if_pos (rgN hi), Int.toNat_natCast, wS i (by omega)]
      generalize l.getD i default = x
      by_cases hx : x = 0 <;> simp [hx, mapC])
    (fun t => by simp [b80_1]) ()
  unfold r80
  rw [h]
  have : ∀ (r : List Int) (i : Int), foldC (fun _ _ x => if x = 0 then Ctl.next () else .out (some x)) (fun _ : Unit => some 0) i r () = some (firstV r) := by
    intro r
    induction r with
    | nil => intro i; rfl
    | cons x r ih =>
      intro i
      by_cases hx : x = 0
      · simp only [foldC, hx, if_true, firstV]; exact ih _
      · simp only [foldC, if_neg hx, firstV]
  exact this l 0
theorem p108 (n : Int) : r151 n = some (inR n 0 1000) := rfl
theorem p111 (n : Int) : r216 n = some (inR n 0 1000000) := rfl
theorem p32 (a b c : Int) : r150 a b c = some (firstV [codeIf (inR a 0 1000000 && inR b 0 1000000 && inR c 0 1000000) 2, codeIf (decide (a < c)) 9]) := by
  unfold r150
  simp only [p111, Option.bind_some, Option.isSome_some, Option.getD_some, implies_true, if_true, p94]
  rw [p91 _ (by simp)]
  rfl
def waterErrV (a b c : Int) : Int := if inR a 0 1000000 && inR b 0 1000000 && inR c 0 1000000 then (if a < c then 0 else 9) else 2
theorem p32' (a b c : Int) : r150 a b c = some (waterErrV a b c) := by
  rw [p32]
  unfold waterErrV
  by_cases h : (inR a 0 1000000 && inR b 0 1000000 && inR c 0 1000000) = true
  · by_cases h2 : a < c <;> simp [h, h2, firstV, codeIf]
  · simp only [Bool.not_eq_true] at h
    simp [h, firstV, codeIf]
/-- FlowsErr -/
def flowsErrV (l : List Int) : Int := if 200 < l.length then 8 else if l.all (fun n => inR n 0 1000) then 0 else 2
/-- the heats -/
def heatsV (gain : Int) : Int → List Int → List Int
  | _, [] => []
  | now, f :: r => let h := IntKind.i64.wrap (now + (gain - (IntKind.i64.wrap (now * f)).tdiv 1000)); h :: heatsV gain h r
theorem heatsV_len (g : Int) : ∀ (l : List Int) (now : Int), (heatsV g now l).length = l.length
  | [], _ => rfl
  | f :: r, now => by simp [heatsV, heatsV_len g r]
/-- a loop that gathers heats -/
def heatF (gain : Int) (i : Int) (t : List Int × Int) (f : Int) : Ctl (List Int × Int) (List Int) :=
  let h := IntKind.i64.wrap (t.2 + (gain - (IntKind.i64.wrap (t.2 * f)).tdiv 1000))
  if (t.1.length + 1) * 8 ≤ 140737488355328 ∧ t.1.length + 1 ≤ 9223372036854775807 then .next (t.1 ++ [h], h) else .out none
theorem heatF_fold (gain : Int) : ∀ (r : List Int) (i : Int) (t : List Int × Int), t.1.length + r.length < 1000000000 → foldC (heatF gain) (fun t => some t.1) i r t = some (t.1 ++ heatsV gain t.2 r)
  | [], i, t, _ => by simp [foldC, heatsV]
  | f :: r, i, t, h => by
    simp only [List.length_cons] at h
    simp only [foldC, heatF]
    rw [if_pos ⟨by omega, by omega⟩]
    simp only
    rw [heatF_fold gain r _ _ (by simp; omega)]
    simp [heatsV]
theorem wrap_heat1 (now g f : Int) : IntKind.i64.wrap (now + IntKind.i64.wrap (g - IntKind.i64.wrap ((IntKind.i64.wrap (now * f)).tdiv 1000))) = IntKind.i64.wrap (now + (g - (IntKind.i64.wrap (now * f)).tdiv 1000)) := by
  generalize (IntKind.i64.wrap (now * f)).tdiv 1000 = q
  simp only [IntKind.wrap_i64]; omega
theorem wrap_heat2 (now g f : Int) : IntKind.i64.wrap (IntKind.i64.wrap (now - IntKind.i64.wrap ((IntKind.i64.wrap (now * f)).tdiv 1000)) + g) = IntKind.i64.wrap (now + (g - (IntKind.i64.wrap (now * f)).tdiv 1000)) := by
  generalize (IntKind.i64.wrap (now * f)).tdiv 1000 = q
  simp only [IntKind.wrap_i64]; omega
theorem p109 (a b c : Int) (l : List Int) (hl : l.length < 1000000000) : r217 a b c l = some (heatsV b a l) := by
  have h := iter_list (τ := List Int × Int) l (b217_1 b l) (fun i t => (t.1, t.2, i)) (heatF b) (fun t => some t.1) hl
    (fun i t hi => by
      simp only [b217_1, ltN hi, if_true, if_pos (rgN hi), Int.toNat_natCast, wS i (by omega), wrap_heat1, heatF]
      split <;> rfl)
    (fun t => by simp [b217_1]) ([], a)
  unfold r217
  rw [h, heatF_fold _ _ _ _ (by simpa using hl)]
  simp
/-- the first place where something holds; -1: nowhere -/
def idxV (p : Int → Bool) : Int → List Int → Int
  | _, [] => -1
  | i, x :: r => if p x then i else idxV p (i + 1) r
theorem idx_fold (p : Int → Bool) : ∀ (r : List Int) (i : Int), foldC (fun i _ x => if p x then (.out (some i) : Ctl Unit Int) else .next ()) (fun _ : Unit => some (-1)) i r () = some (idxV p i r)
  | [], i => rfl
  | x :: r, i => by
    cases hx : p x with
    | true => simp [foldC, hx, idxV]
    | false => simp only [foldC, hx, idxV]; exact idx_fold p r (i + 1)
theorem p141d (l : List Int) (a b c : Int) (hl : l.length < 1000000000) : r170c l a b c = some (idxV (fun n => decide (n ≥ c)) 0 l) := by
  have h := iter_list (τ := Unit) l (b170c_1 l a b c) (fun i _ => i) (fun i _ x => if decide (x ≥ c) then .out (some i) else .next ()) (fun _ => some (-1)) hl
    (fun i t hi => by
      simp only [b170c_1, ltN hi, if_true, if_pos (rgN hi), Int.toNat_natCast, wS i (by omega), r218, bindC]
      rcases Decidable.em (l.getD i default ≥ c) with hx | hx <;> simp only [hx, decide_true, decide_false, if_true, Bool.false_eq_true, if_false, mapC])
    (fun t => by simp [b170c_1]) ()
  unfold r170c
  rw [h]; exact idx_fold _ l 0
theorem idx_ge (p : Int → Bool) : ∀ (l : List Int) (i : Int), 0 ≤ i → (decide (idxV p i l ≥ 0)) = l.any p
  | [], i, h => by simp [idxV]
  | x :: r, i, h => by
    cases hx : p x with
    | true => simp [idxV, hx, h]
    | false => simp only [idxV, hx, List.any_cons, Bool.false_or]; exact idx_ge p r (i + 1) (by omega)
theorem idx_le (p : Int → Bool) : ∀ (l : List Int) (i : Int), 0 ≤ i → idxV p i l < i + l.length
  | [], i, h => by simp [idxV]; omega
  | x :: r, i, h => by
    simp only [idxV, List.length_cons]
    split
    · omega
    · have := idx_le p r (i + 1) (by omega); omega
def boilV (c : Int) (hs : List Int) (n : Int) : Int := if idxV (fun n => decide (n ≥ c)) 0 hs < 0 then n + 1 else idxV (fun n => decide (n ≥ c)) 0 hs + 1
theorem p110 (a b c : Int) (l : List Int) (hl : l.length < 1000000000) : r152 a b c l = some (boilV c (heatsV b a l) l.length) := by
  unfold r152 boilV
  have hh := heatsV_len b l a
  rw [p109 a b c l hl, Option.bind_some, p141d _ _ _ _ (by omega), Option.bind_some]
  have h1 := idx_le (fun n => decide (n ≥ c)) (heatsV b a l) 0 (by omega)
  generalize hi : idxV (fun n => decide (n ≥ c)) 0 (heatsV b a l) = i at *
  have e1 : IntKind.i64.wrap ((l.length : Int) + 1) = (l.length : Int) + 1 := wS _ hl
  by_cases h : i < 0
  · simp [h, e1]
  · have e2 : IntKind.i64.wrap (i + 1) = i + 1 := IntWalk.i64_in _ ⟨by omega, by omega⟩
    simp [h, e2]
def rangeE (x : Int × Int) : Int := if inR x.1 0 1000 && inR x.2 0 1000 then (if x.1 ≤ x.2 then 0 else 9) else 2
def rangesV : List (Int × Int) → Int
  | [] => 0
  | x :: r => if rangeE x = 0 then rangesV r else rangeE x
theorem first3 (e : Int) (x : Int × Int) : firstV [e, codeIf (inR x.1 0 1000 && inR x.2 0 1000) 2, codeIf (decide (x.1 ≤ x.2)) 9] = if e = 0 then rangeE x else e := by
  unfold rangeE
  by_cases he : e = 0
  · rcases Bool.eq_false_or_eq_true (inR x.1 0 1000 && inR x.2 0 1000) with h | h
    · by_cases hx : x.1 ≤ x.2 <;> simp [firstV, codeIf, he, h, hx]
    · simp [firstV, codeIf, he, h]
  · simp [firstV, he]
def boilingV (a b c : Int) (l : List (Int × Int)) (e : Int) : Int × Int × Int :=
  if e = 0 then
    if boilV c (heatsV b a (l.map (·.1))) l.length > l.length then (0, 0, 12) else (boilV c (heatsV b a (l.map (·.1))) l.length, boilV c (heatsV b a (l.map (·.2))) l.length, 0)
  else (0, 0, e)
theorem p30 (a b c : Int) (l : List (Int × Int)) (hl : l.length < 1000000000) :
    r62 a b c l = some (boilingV a b c l (if firstV [waterErrV a b c, codeIf (decide ((l.length : Int) ≤ 200)) 8] = 0 then rangesV l else firstV [waterErrV a b c, codeIf (decide ((l.length : Int) ≤ 200)) 8])) := by
  unfold r62
  rw [p32', Option.bind_some, p94, Option.bind_some, p91 _ (by simp), Option.bind_some]
  generalize firstV [waterErrV a b c, codeIf (decide ((l.length : Int) ≤ 200)) 8] = e0
  let fin : Int × List Int × List Int → Option (Int × Int × Int) := fun t => if (t.1 != 0) = true then some (0, 0, t.1) else (r152 a b c t.2.1).bind fun v12 => (r152 a b c t.2.2).bind fun v13 => if (decide (v12 > (l.length : Int))) = true then some (0, 0, 12) else some (v12, v13, 0)
  have h := iter_list (τ := Int × List Int × List Int) l (b62_1 a b c l) (fun i t => (t.1, t.2.1, t.2.2, i))
    (fun _ t x => if (t.2.1.length + 1) * 8 ≤ 140737488355328 ∧ t.2.1.length + 1 ≤ 9223372036854775807 then (if (t.2.2.length + 1) * 8 ≤ 140737488355328 ∧ t.2.2.length + 1 ≤ 9223372036854775807 then .next (if t.1 = 0 then rangeE x else t.1, t.2.1 ++ [x.1], t.2.2 ++ [x.2]) else .out none) else .out none) fin hl
    (fun i t hi => by
      simp only [b62_1, ltN hi, if_true, if_pos (rgN hi), Int.toNat_natCast, wS i (by omega), p108, bindC, Option.isSome_some, Option.getD_some, implies_true, p94]
      rw [p91 _ (by simp)]
      simp only [first3]
      split
      · split <;> rfl
      · rfl)
    (fun t => by simp [b62_1, fin]) (e0, [], [])
  rw [h]
  have key : ∀ (r : List (Int × Int)) (i : Int) (t : Int × List Int × List Int), t.2.1.length + r.length < 1000000000 → t.2.2.length + r.length < 1000000000 →
      foldC (fun _ t x => if (t.2.1.length + 1) * 8 ≤ 140737488355328 ∧ t.2.1.length + 1 ≤ 9223372036854775807 then (if (t.2.2.length + 1) * 8 ≤ 140737488355328 ∧ t.2.2.length + 1 ≤ 9223372036854775807 then (.next (if t.1 = 0 then rangeE x else t.1, t.2.1 ++ [x.1], t.2.2 ++ [x.2]) : Ctl (Int × List Int × List Int) (Int × Int × Int)) else .out none) else .out none) fin i r t =
      fin (if t.1 = 0 then rangesV r else t.1, t.2.1 ++ r.map (·.1), t.2.2 ++ r.map (·.2)) := by
    intro r
    induction r with
    | nil =>
      intro i t _ _
      simp only [foldC, rangesV, List.map_nil, List.append_nil]
      by_cases h0 : t.1 = 0
      · simp only [h0, if_true]; congr 1; ext <;> simp [h0]
      · simp only [h0, if_false]
    | cons x r ih =>
      intro i t h1 h2
      simp only [List.length_cons] at h1 h2
      simp only [foldC]
      rw [if_pos ⟨by omega, by omega⟩, if_pos ⟨by omega, by omega⟩]
      simp only
      rw [ih _ _ (by simp; omega) (by simp; omega)]
      simp only [rangesV, List.map_cons, List.append_assoc, List.singleton_append]
      congr 2
      by_cases h0 : t.1 = 0
      · simp [h0]
      · simp [h0]
  rw [key l 0 _ (by simpa using hl) (by simpa using hl)]
  simp only [fin, List.nil_append, boilingV]
  by_cases he : (if e0 = 0 then rangesV l else e0) = 0
  · rw [he]
    simp only [bne_self_eq_false, Bool.false_eq_true, if_false, if_true]
    rw [p110 _ _ _ _ (by simpa using hl), Option.bind_some, p110 _ _ _ _ (by simpa using hl), Option.bind_some]
    simp only [List.length_map]
    by_cases hg : boilV c (heatsV b a (l.map (·.1))) l.length > l.length
    · simp [hg]
    · simp [hg]
  · simp [he]
theorem p34 (l : List Int) (hl : l.length < 1000000000) : r64 l l = some true := by
  unfold r64
  have h := iter_list (τ := Unit) l (b64_1 l l) (fun i _ => i) (fun _ _ _ => .next ()) (fun _ => some true) hl
    (fun i t hi => by
      simp only [b64_1, ltN hi, if_true, if_pos (rgN hi), Int.toNat_natCast, wS i (by omega), bne_self_eq_false, Bool.false_eq_true, if_false, mapC])
    (fun t => by simp [b64_1]) ()
  rw [h]
  have : ∀ (r : List Int) (i : Int), foldC (fun _ _ _ => (.next () : Ctl Unit Bool)) (fun _ : Unit => some true) i r () = some true := by
    intro r
    induction r with
    | nil => intro i; rfl
    | cons x r ih => intro i; exact ih _
  simp [this]
def shortV (n : Int) : Bool := decide (n ≤ 20) || (decide (n > 200) && decide (n ≤ 202))
theorem shortV_le {n : Int} (h : shortV n = true) : n ≤ 202 := by unfold shortV at h; simp at h; omega
theorem p19 (l : List Int) (hl : l.length < 1000000000) : r17 l = some l := by
  unfold r17; rw [if_pos ⟨by omega, by omega⟩]
end Go.Proofs.YthldpejmofhaoaaGreatDoor

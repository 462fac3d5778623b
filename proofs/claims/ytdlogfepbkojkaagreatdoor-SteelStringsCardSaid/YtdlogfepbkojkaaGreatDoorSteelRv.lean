/- Steel: the reference's CheckRules is the plain function; SteelRuled as a plain law. -/
import Derived.Test.YtdlogfepbkojkaaGreatDoorF05
import Derived.Test.YtdlogfepbkojkaaGreatDoorSteelRu
set_option linter.unusedVariables false
set_option linter.unusedSimpArgs false
namespace Go.Proofs.YtdlogfepbkojkaaGreatDoor
open Go.Abs

theorem map_getD {α β : Type} [Inhabited α] [Inhabited β] (l : List α) (g : α → β) {i : Nat} (h : i < l.length) : (l.map g).getD i default = g (l.getD i default) := by
  rw [List.getD_eq_getElem?_getD, List.getElem?_map, List.getElem?_eq_getElem h, List.getD_eq_getElem?_getD, List.getElem?_eq_getElem h]; rfl
def lastV (L : List Kn) (i : Nat) : Int := if i = 0 then -1 else (L.getD (i - 1) default).1
def stR (L : List Kn) (i : Nat) : Int × Int := (lastV L i, (i : Int))
theorem refE (dir : Int) (L : List Kn) (i : Nat) (ord : Bool) (h1 : i = 0 → ord = true)
    (h2 : i ≠ 0 → ord = (decide (dir = 0) || (decide (dir * ((L.getD (i - 1) default).2.1.getD 0 default).1 ≤ dir * ((L.getD i default).2.1.getD 0 default).1) && decide (dir * ((L.getD (i - 1) default).2.1.getD 0 default).2 ≤ dir * ((L.getD i default).2.1.getD 0 default).2)))) :
    (if kn1 (L.getD i default) = 0 then (if decide ((L.getD i default).1 ≤ lastV L i) || !ord then 9 else 0) else kn1 (L.getD i default)) = errE dir L i := by
  unfold errE knE
  by_cases hk : kn1 (L.getD i default) = 0
  · rw [if_pos hk, if_pos hk]
    by_cases hi : i = 0
    · have v := (kn1_zero hk).1.1
      unfold lastV
      rw [h1 hi, if_pos hi, if_pos hi]
      have : ¬ (L.getD i default).1 ≤ -1 := by omega
      simp only [this, decide_false, Bool.not_true, Bool.or_false, Bool.false_eq_true, if_false]
    · unfold lastV
      rw [if_neg hi, if_neg hi, h2 hi]
      show _ = if ascB dir (L.getD i default) (L.getD (i - 1) default) = true then 0 else 9
      unfold ascB
      generalize (decide (dir = 0) || _) = z
      by_cases hl : (L.getD (i - 1) default).1 < (L.getD i default).1
      · have : ¬ (L.getD i default).1 ≤ (L.getD (i - 1) default).1 := by omega
        cases z <;> simp only [hl, this, decide_true, decide_false, Bool.true_and, Bool.false_or, Bool.not_true, Bool.not_false, if_true, if_false, Bool.false_eq_true]
      · have : (L.getD i default).1 ≤ (L.getD (i - 1) default).1 := by omega
        cases z <;> simp only [hl, this, decide_true, decide_false, Bool.false_and, Bool.true_or, if_true, if_false, Bool.false_eq_true]
  · rw [if_neg hk, if_neg hk]
theorem bindStep {σ : Type} (v : Int) (i : Nat) (nx nx' : σ) (h : nx = nx') :
    (bindC (some v) fun u => if (u != 0) = true then Ctl.out (some ((i : Int), u)) else (.next nx : Ctl σ (Int × Int))) = if v = 0 then .next nx' else .out (some ((i : Int), v)) := by
  subst h
  show (if (v != 0) = true then _ else _) = _
  by_cases h : v = 0
  · rw [if_neg (by simp [h]), if_pos h]
  · rw [if_pos (by simpa using h), if_neg h]
theorem wP {i : Nat} (h : i < 1000000000) (h0 : i ≠ 0) : IntKind.i64.wrap ((i : Int) - 1) = ((i - 1 : Nat) : Int) := by
  rw [wI (by omega) (by omega)]; omega
theorem gP {i n : Nat} (hi : i < n) (hn : n < 1000000000) : (!((i : Int) == 0)) = true → 0 ≤ IntKind.i64.wrap ((i : Int) - 1) ∧ IntKind.i64.wrap ((i : Int) - 1) < (n : Int) := fun h => by
  have h0 : i ≠ 0 := by rintro rfl; simp at h
  rw [wP (by omega) h0]; omega
section
variable (H : List (Int × Int × Int × Int)) (C : List (Int × Int × Int × Int × Int)) (Q : List (Int × Int × Int)) (T : List (Int × Int)) (a b c d : Int)
theorem nextR {α : Type} [Inhabited α] (l : List α) (g : α → Kn) {i : Nat} (hi : i < l.length) (hl : l.length < 1000000000) (z : Int) (hz : (g (l.getD i default)).1 = z) : (z, IntKind.i64.wrap ((i : Int) + 1)) = stR (l.map g) (i + 1) := by
  unfold stR lastV
  rw [if_neg (by omega), wS i (by omega), show i + 1 - 1 = i by omega, map_getD l g hi, hz]
  rfl
theorem refHrd : ((r43 a 0 2000).bind fun v18 =>
      if (!v18) = true then
       some ((0 : Int), (2 : Int))
       else (r43 b 0 2000).bind fun v19 =>
        if (!v19) = true then
         some (0, 2)
         else (r43 c 0 2000).bind fun v20 =>
          if (!v20) = true then
           some (0, 2)
           else (r43 d 0 2000).bind fun v21 =>
            if (!v21) = true then
             some (0, 2)
             else if (decide (b < a)) = true then
              some (0, 9)
              else if (decide (c < b)) = true then
               some (0, 9)
               else if (decide (d < c)) = true then
                some (0, 9)
                else some (0, 0)) = some (0, hrdE a b c d) := by
  simp only [p29, Option.bind_some]
  unfold hrdE
  by_cases g1 : inR a 0 2000 = true
  · by_cases g2 : inR b 0 2000 = true
    · by_cases g3 : inR c 0 2000 = true
      · by_cases g4 : inR d 0 2000 = true
        · by_cases g5 : b < a
          · have : ¬ a ≤ b := by omega
            simp [g1, g2, g3, g4, g5, this]
          · have h5 : a ≤ b := by omega
            by_cases g6 : c < b
            · have : ¬ b ≤ c := by omega
              simp [g1, g2, g3, g4, g5, g6, this]
            · have h6 : b ≤ c := by omega
              by_cases g7 : d < c
              · have : ¬ c ≤ d := by omega
                simp [g1, g2, g3, g4, g5, g6, g7, this]
              · have h7 : c ≤ d := by omega
                simp [g1, g2, g3, g4, g5, g6, g7, h5, h6, h7]
        · simp [g1, g2, g3, g4]
      · simp [g1, g2, g3]
    · simp [g1, g2]
  · simp [g1]
/-- the tail of the reference behind all knots -/
theorem ref_tail (hT : T.length ≤ 8) (s2 s3 : Int × Int) (x y z : Int) (e2 : s2.1 = x) (e3 : s3.1 = y) (fin : Int × Int)
    (hfin : (if (decide ((H.length : Int) > 0)) = true → 0 ≤ 0 ∧ 0 < (H.length : Int) then
      if ((decide ((H.length : Int) > 0)) && (decide ((if (if x < y then y else x) < lastV (T.map kT) T.length then lastV (T.map kT) T.length else (if x < y then y else x)) ≥ ((H.getD 0 default).1)))) = true then some ((0 : Int), (13 : Int)) else some (0, hrdE a b c d) else none) = some fin) :
    iterC (b42_4 H T a b c d s2 s3) 1000000000 ((-1), 0) = orE (errs 0 (T.map kT)) (some fin) := by
  subst e2; subst e3
  have hl : T.length < 1000000000 := by omega
  have h := iter_errs T.length (b42_4 H T a b c d s2 s3) (stR (T.map kT)) (errE 0 (T.map kT)) (some fin) hl (fun i hi h0 => by
    have hm := map_getD T kT hi
    have hr := refE 0 (T.map kT) i true (fun _ => rfl) (fun _ => by simp)
    have hp := p70 (kT (T.getD i default)) (lastV (T.map kT) i) true (by simp [kT])
    refine (if_pos (ltN hi)).trans ((if_pos (rgN hi)).trans ((if_pos (rgN hi)).trans ?_))
    have e : r71 ((T.getD (i : Int).toNat default).1) (lastV (T.map kT) i) [] ((T.getD (i : Int).toNat default).2) true = some (errE 0 (T.map kT) i) := by
      rw [← hr, hm]; exact hp
    show (bindC (r71 ((T.getD (i : Int).toNat default).1) (lastV (T.map kT) i) [] ((T.getD (i : Int).toNat default).2) true) _) = _
    rw [e, ← bindStep (errE 0 (T.map kT) i) i (((T.getD (i : Int).toNat default).1), IntKind.i64.wrap ((i : Int) + 1)) (stR (T.map kT) (i + 1)) (nextR T kT hi hl _ rfl)]
    congr 1
    funext u
    congr 1
    exact if_pos (rgN hi)) (fun _ => by
    refine (if_neg (by simp [stR])).trans ?_
    congr 1
    rw [← hfin, refHrd]
    rfl)
  simpa [stR, lastV, errs] using h
end
end Go.Proofs.YtdlogfepbkojkaaGreatDoor

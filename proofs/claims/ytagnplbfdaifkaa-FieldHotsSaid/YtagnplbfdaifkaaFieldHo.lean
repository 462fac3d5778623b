/- FieldHots as a plain law. -/
import Derived.Test.YtagnplbfdaifkaaFieldE
import Derived.Test.YtagnplbfdaifkaaF16
set_option linter.unusedVariables false
set_option linter.unusedSimpArgs false
namespace Go.Proofs.Ytagnplbfdaifkaa
open Go.Abs

def hotV (l : List Int) (a : Int) : List Bool := l.map (fun n => decide (n ≥ a))
def allK (l : List Int) : Bool := l.all (fun n => inR n 1 3000)
def hotE (l : List Int) (a : Int) : Int := if l.length ≤ 4 then (if allK l = true then codeIf (inR a 1 3000) 2 else 2) else 8
theorem hotV_get (l : List Int) (a : Int) {i : Nat} (hi : i < l.length) : (hotV l a).getD i default = decide (l.getD i default ≥ a) := by
  simp only [hotV, List.getD_eq_getElem?_getD, List.getElem?_map, List.getElem?_eq_getElem hi]; rfl
theorem hotV_len (l : List Int) (a : Int) : (hotV l a).length = l.length := by simp [hotV]
theorem hot_step (l : List Int) (a : Int) {i : Nat} (hi : i < l.length) : (hotV l a).take i ++ [decide (l.getD i default ≥ a)] = (hotV l a).take (i + 1) := by
  rw [take_getD (by rw [hotV_len]; exact hi), hotV_get l a hi]
theorem hot_end (l : List Int) (a : Int) : (hotV l a).take l.length = hotV l a := by rw [← hotV_len l a, List.take_length]
theorem p41_2 (l : List Int) (a : Int) (hl : l.length ≤ 1000000) : iterC (b41_2 l a) 1000000000 ([], 0) = some (hotV l a, 0) := by
  refine iter_run l.length (b41_2 l a) (fun i => ((hotV l a).take i, (i : Int))) _ (by omega) (fun i hi => ?_) ?_
  · simp only [b41_2, ltN hi, if_true, if_pos (rgN hi), Int.toNat_natCast, wS i (by omega), List.length_take, hotV_len, hot_step l a hi]
    rw [if_pos ⟨by omega, by omega⟩]; rfl
  · unfold b41_2
    rw [if_neg (by simp)]
    simp only [hot_end]
theorem p41_3 (l : List Int) (a : Int) (hl : l.length ≤ 1000000) : iterC (b41_3 l a) 1000000000 ([], 0) = some (hotV l a, 0) := by
  refine iter_run l.length (b41_3 l a) (fun i => ((hotV l a).take i, (i : Int))) _ (by omega) (fun i hi => ?_) ?_
  · simp only [b41_3, ltN hi, if_true, if_pos (rgN hi), Int.toNat_natCast, wS i (by omega), List.length_take, hotV_len, hot_step l a hi]
    rw [if_pos ⟨by omega, by omega⟩]; rfl
  · unfold b41_3
    rw [if_neg (by simp)]
    simp only [hot_end]
theorem p45 (l : List Int) (a : Int) (hl : l.length ≤ 1000000) : r45 l a = some (hotV l a) := by
  refine iter_run l.length (b45_1 l a) (fun i => ((hotV l a).take i, (i : Int))) _ (by omega) (fun i hi => ?_) ?_
  · simp only [b45_1, ltN hi, if_true, if_pos (rgN hi), Int.toNat_natCast, wS i (by omega), List.length_take, hotV_len, hot_step l a hi]
    rw [if_pos ⟨by omega, by omega⟩]; rfl
  · unfold b45_1
    rw [if_neg (by simp)]
    simp only [hot_end]
theorem p44 (l : List Bool) (hl : l.length ≤ 1000000) : r44 l l = some true := by
  unfold r44
  rw [if_neg (by simp)]
  refine iter_run l.length (b44_1 l l) (fun i => (i : Int)) _ (by omega) (fun i hi => ?_) (by simp [b44_1])
  simp only [b44_1, ltN hi, if_true, if_pos (rgN hi), Int.toNat_natCast, wS i (by omega)]
  rw [if_neg (by simp)]; rfl
theorem p107 (a : Int) : r107 a = some (inR a 1 3000) := rfl
theorem allK_drop (l : List Int) {i : Nat} (hi : i < l.length) : allK (l.drop i) = (inR (l.getD i default) 1 3000 && allK (l.drop (i + 1))) := by
  rw [drop_getD hi]; rfl
theorem p41 (l : List Int) (a : Int) (hl : l.length ≤ 1000000) : r41 l a = some (if hotE l a = 0 then (hotV l a, 0) else ([], hotE l a)) := by
  have hend : b41_1 l a ((l.length : Nat) : Int) = .out (some (if (if l.length ≤ 4 then codeIf (inR a 1 3000) 2 else 8) = 0 then (hotV l a, 0) else ([], if l.length ≤ 4 then codeIf (inR a 1 3000) 2 else 8))) := by
    unfold b41_1
    rw [if_neg (by simp), p96, Option.bind_some, p107, gS, p96, Option.bind_some, p87 _ (by simp), Option.bind_some, p41_3 l a hl]
    by_cases h : l.length ≤ 4
    · have h' : decide ((l.length : Int) ≤ 4) = true := by simp; omega
      rw [if_pos h, h']
      cases inR a 1 3000 <;> simp [codeIf, firstV]
    · have h' : decide ((l.length : Int) ≤ 4) = false := by simp; omega
      rw [if_neg h, h']
      simp [codeIf, firstV]
  have key := iter_suf l.length (b41_1 l a) (fun i => (i : Int)) (fun i => if allK (l.drop i) = true then some (if (if l.length ≤ 4 then codeIf (inR a 1 3000) 2 else 8) = 0 then (hotV l a, 0) else ([], if l.length ≤ 4 then codeIf (inR a 1 3000) 2 else 8)) else some ([], if l.length ≤ 4 then 2 else 8)) (by omega)
    (fun i hi => by
      have e := allK_drop l hi
      simp only [b41_1, ltN hi, if_true, if_pos (rgN hi), Int.toNat_natCast, wS i (by omega), p107 (l.getD i default), bindC]
      cases hx : inR (l.getD i default) 1 3000 with
      | true =>
        left
        rw [hx, Bool.true_and] at e
        exact ⟨by rw [if_neg (by simp)]; rfl, by rw [e]⟩
      | false =>
        right
        rw [hx, Bool.false_and] at e
        rw [if_pos (by simp), e, if_neg (by simp), p96, Option.bind_some, p107, gS, p96, Option.bind_some, p87 _ (by simp), Option.bind_some]
        by_cases h : l.length ≤ 4
        · have h' : decide ((l.length : Int) ≤ 4) = true := by simp; omega
          rw [if_pos h, h']
          simp [codeIf, firstV]
        · have h' : decide ((l.length : Int) ≤ 4) = false := by simp; omega
          rw [if_neg h, h']
          simp [codeIf, firstV]) (by
      rw [hend, List.drop_length]; rfl)
  have key : r41 l a = _ := key
  rw [key, List.drop_zero]
  unfold hotE
  cases allK l with
  | true => simp only [if_true]
  | false =>
    simp only [Bool.false_eq_true, if_false]
    by_cases h : l.length ≤ 4
    · simp [h]
    · simp [h]
theorem p43 (l : List Int) (a : Int) : r43 l a = some (hotE l a) := by
  unfold r43 hotE
  by_cases h : l.length ≤ 4
  · rw [if_neg (by simp; omega), if_pos h]
    have key := iter_suf l.length (b43_1 l a) (fun i => (i : Int)) (fun i => some (if allK (l.drop i) = true then codeIf (inR a 1 3000) 2 else 2)) (by omega)
      (fun i hi => by
        have e := allK_drop l hi
        simp only [b43_1, ltN hi, if_true, if_pos (rgN hi), Int.toNat_natCast, wS i (by omega), p33, bindC]
        cases hx : inR (l.getD i default) 1 3000 with
        | true =>
          left
          rw [hx, Bool.true_and] at e
          exact ⟨by rw [if_neg (by simp)]; rfl, by rw [e]⟩
        | false =>
          right
          rw [hx, Bool.false_and] at e
          rw [if_pos (by simp), e, if_neg (by simp)]) (by
        unfold b43_1
        rw [if_neg (by simp), List.drop_length, p33, Option.bind_some]
        cases inR a 1 3000 <;> rfl)
    exact key
  · rw [if_pos (by simp; omega), if_neg h]
theorem hots (l : List Int) (a : Int) : r8 l a = some true := by
  unfold r8
  rw [awake, Option.bind_some, if_neg (by simp)]
  by_cases h : l.length ≤ 6
  · rw [if_neg (by simp; omega)]
    unfold r42
    rw [if_pos ⟨by omega, by omega⟩, Option.bind_some, p41 l a (by omega), Option.bind_some, p43, Option.bind_some]
    by_cases he : hotE l a = 0
    · rw [if_neg (by simpa using he)]
      simp only [if_pos he]
      rw [p45 l a (by omega), gS]
      simp only [Option.getD_some]
      rw [p44 _ (by rw [hotV_len]; omega), gS]
      rfl
    · rw [if_pos (by simpa using he)]
      simp [he]
  · rw [if_pos (by simp; omega)]
end Go.Proofs.Ytagnplbfdaifkaa

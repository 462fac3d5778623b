/- Strings: a set-up parsed, by the program and by the reference. -/
import Derived.Test.YthldpejmofhaoaaGreatDoorF04
import Derived.Test.YthldpejmofhaoaaGreatDoorF05
import Derived.Test.YthldpejmofhaoaaGreatDoorStrD
set_option linter.unusedVariables false
set_option linter.unusedSimpArgs false
namespace Go.Proofs.YthldpejmofhaoaaGreatDoor
open Go.Abs

abbrev PL := List (Int × Int)
def parseV (l : List UInt8) : Int × Int × PL × List PL × Int :=
  if 60000 < l.length then (0, 0, [], [], 8)
  else if (cut 59 l).tail ≠ [] ∧ GoodW 7 2 ((cut 59 l).headD []) ∧ ∀ p ∈ (cut 59 l).tail, okP p then
    (if (setupErrV (pr2 ((cut 59 l).headD [])).1 (pr2 ((cut 59 l).headD [])).2 (prsV ((cut 59 l).tail.headD [])) ((cut 59 l).tail.tail.map prsV)).2 = 0
      then ((pr2 ((cut 59 l).headD [])).1, (pr2 ((cut 59 l).headD [])).2, prsV ((cut 59 l).tail.headD []), (cut 59 l).tail.tail.map prsV, 0)
      else (0, 0, [], [], (setupErrV (pr2 ((cut 59 l).headD [])).1 (pr2 ((cut 59 l).headD [])).2 (prsV ((cut 59 l).tail.headD [])) ((cut 59 l).tail.tail.map prsV)).2))
  else (0, 0, [], [], 7)
/-- not many laws, and not many pairs in one -/
def Sm (l : List UInt8) : Prop := (cut 59 l).length ≤ 999 ∧ ∀ p ∈ cut 59 l, (prsV p).length < 1000
theorem parse_end {p0 q0 : List UInt8} {rest : List (List UInt8)} {l : List UInt8} (hl : l.length ≤ 60000) (hc : cut 59 l = p0 :: q0 :: rest) (g0 : GoodW 7 2 p0) (g : ∀ p ∈ q0 :: rest, okP p) (e : Int)
    (he : e = (setupErrV (pr2 p0).1 (pr2 p0).2 (prsV q0) (rest.map prsV)).2) :
    (if (e != 0) = true then some ((0 : Int), (0 : Int), ([] : PL), ([] : List PL), e) else some ((pr2 p0).1, (pr2 p0).2, prsV q0, rest.map prsV, 0)) = some (parseV l) := by
  subst he
  have e1 : parseV l = if (setupErrV (pr2 p0).1 (pr2 p0).2 (prsV q0) (rest.map prsV)).2 = 0 then ((pr2 p0).1, (pr2 p0).2, prsV q0, rest.map prsV, 0) else (0, 0, [], [], (setupErrV (pr2 p0).1 (pr2 p0).2 (prsV q0) (rest.map prsV)).2) := by
    rw [parseV, if_neg (by omega), hc]
    exact if_pos ⟨by simp, g0, g⟩
  rw [e1]
  by_cases h : (setupErrV (pr2 p0).1 (pr2 p0).2 (prsV q0) (rest.map prsV)).2 = 0
  · rw [if_neg (by rw [h]; simp), if_pos h]
  · rw [if_pos (by simpa using h), if_neg h]
theorem parse_bad {l : List UInt8} (hl : l.length ≤ 60000) (hb : ¬ ((cut 59 l).tail ≠ [] ∧ GoodW 7 2 ((cut 59 l).headD []) ∧ ∀ p ∈ (cut 59 l).tail, okP p)) : parseV l = (0, 0, [], [], 7) := by
  rw [parseV, if_neg (by omega)]
  exact if_neg hb
theorem s29 (l : List UInt8) (c : UInt8) (h : l.length ≤ 60000) : r70 (lb l) ⟨#[c]⟩ = some ((cut c l).map lb) := by
  show splitV (lb l) ⟨#[c]⟩ = _
  rw [split_cut _ _ (by rw [size_lb]; omega), bl_lb]
theorem prs_len (l : List UInt8) : (prsV l).length ≤ l.length + 1 := by
  unfold prsV
  split
  · simp
  · rw [List.length_map]; exact cut_len_le 44 l
theorem prs_ok {l : List UInt8} (h : okP l) : prsR l = (prsV l, true) := if_pos h
theorem prs_no {l : List UInt8} (h : ¬ okP l) : prsR l = ([], false) := if_neg h
theorem eta2 (p : Int × Int) : (p.1, p.2) = p := rfl
theorem in8_3 (s1 : Int × PL × List PL) (v : PL × Bool) (hs : s1.1 = 0) (hv : v.1.length ≤ 100000) : iterC (b12_3 s1 v) 1000000000 (0, [], s1.2.2) = some (.next (1, v.1, s1.2.2)) := by
  have h := iter_run v.1.length (b12_3 s1 v) (fun k => ((k : Int), v.1.take k, s1.2.2)) (some (.next (1, v.1, s1.2.2))) (by omega) (fun i hi => ?_) ?_
  · exact h
  · unfold b12_3
    simp only
    rw [if_pos (by simpa using hi), if_pos (by omega), if_pos (by rw [hs]; rfl), if_pos (by rw [List.length_take]; omega), wI (by omega) (by omega), Int.toNat_natCast, eta2, take_succ' v.1 default hi]; rfl
  · unfold b12_3
    simp only
    rw [if_neg (by simp), List.take_length, hs]; rfl
theorem getD_last {α : Type} (L : List α) (x d : α) : (L ++ [x]).getD L.length d = x := by simp [List.getD_eq_getElem?_getD]
theorem set_last {α : Type} (L : List α) (x y : α) : (L ++ [x]).set L.length y = L ++ [y] := by simp
theorem in8_2 (s1 : Int × PL × List PL) (v : PL × Bool) (hs : s1.1 = ((s1.2.2.length + 1 : Nat) : Int)) (hL : s1.2.2.length ≤ 100000) (hv : v.1.length ≤ 100000) :
    iterC (b12_2 s1 v) 1000000000 (0, s1.2.1, s1.2.2 ++ [[]]) = some (.next (s1.1 + 1, s1.2.1, s1.2.2 ++ [v.1])) := by
  have h := iter_run v.1.length (b12_2 s1 v) (fun k => ((k : Int), s1.2.1, s1.2.2 ++ [v.1.take k])) (some (.next (s1.1 + 1, s1.2.1, s1.2.2 ++ [v.1]))) (by omega) (fun i hi => ?_) ?_
  · exact h
  · unfold b12_2
    simp only
    have ew : IntKind.i64.wrap (s1.1 - 1) = (s1.2.2.length : Int) := by rw [wI (by omega) (by omega)]; omega
    rw [ew]; simp only [Int.toNat_natCast]
    rw [getD_last, set_last, if_pos (by simpa using hi), if_pos (by omega), if_neg (by rw [hs]; simp; omega), if_pos (by rw [List.length_append, List.length_singleton]; omega), if_pos (by rw [List.length_take]; omega), if_pos (by rw [List.length_append, List.length_singleton]; omega), wI (by omega) (by omega), eta2, take_succ' v.1 default hi]; rfl
  · unfold b12_2
    simp only
    rw [if_neg (by simp), List.take_length, wI (by omega) (by omega)]
theorem t8 (l : List UInt8) (hS : Sm l) : r12 (lb l) = some (parseV l) := by
  unfold r12
  by_cases hl : 60000 < l.length
  · rw [if_pos (by rw [size_lb, decide_eq_true_eq]; omega), parseV, if_pos hl]
  have hl : l.length ≤ 60000 := by omega
  rw [if_neg (by rw [size_lb, decide_eq_true_eq]; omega)]
  rcases c27 l 59 hl with ⟨h1, h2⟩ | ⟨i, h1, h2, h3, h4⟩
  · obtain ⟨v, v1, _⟩ := t28 l hl
    rw [h2, Option.bind_some]
    simp only
    rw [v1, Option.bind_some, if_pos (by simp), parse_bad hl]
    rw [cut_none h1]
    exact fun h => h.1 rfl
  · have hpl0 : (l.take i).length ≤ 60000 := by rw [List.length_take]; omega
    have hdl : (l.drop (i + 1)).length ≤ 60000 := by rw [List.length_drop]; omega
    obtain ⟨v, v1, v2, v3⟩ := t28 (l.take i) hpl0
    have hc0 : cut 59 l = l.take i :: cut 59 (l.drop (i + 1)) := by conv => lhs; rw [h3, cut_at _ _ h2]
    rw [h4, Option.bind_some]
    simp only
    rw [v1, Option.bind_some]
    by_cases g0 : GoodW 7 2 (l.take i)
    rotate_left
    · have hv : v.2.2 = false := by rw [v2]; simpa using g0
      rw [if_pos (by rw [hv]; rfl), parse_bad hl]
      rw [hc0]
      exact fun h => g0 h.2.1
    have hv : v.2.2 = true := by rw [v2]; simpa using g0
    have hab := v3 hv
    rw [if_neg (by rw [hv]; simp), s29 _ 59 hdl, Option.bind_some]
    have hpl := cut_len 59 l
    have hcl := hS.1
    have hsm := hS.2
    generalize hp0 : l.take i = p0 at hc0 g0 hab
    cases hc1 : cut 59 (l.drop (i + 1)) with
    | nil => exact absurd hc1 (cut_ne 59 _)
    | cons q0 rest =>
    rw [hc1] at hc0
    rw [hc0] at hcl hpl hsm
    simp only [List.length_cons] at hcl
    have hbad : ∀ p ∈ q0 :: rest, ¬ okP p → parseV l = (0, 0, [], [], 7) := fun p hp hb => by
      rw [parse_bad hl]
      rw [hc0]
      exact fun h => hb (h.2.2 p hp)
    refine iter_meas (b12_1 v ((q0 :: rest).map lb)) (fun s => s = (0, [], []) ∨ ∃ j : Nat, s = (((j + 1 : Nat) : Int), prsV q0, (rest.take j).map prsV) ∧ j ≤ rest.length ∧ okP q0 ∧ ∀ p ∈ rest.take j, okP p) (fun s => rest.length + 1 - s.1.toNat) (fun o => o = some (parseV l)) (fun s hs => ?_) 1000000000 _ (.inl rfl) (by show rest.length + 1 - (0 : Int).toNat < 1000000000; omega)
    rcases hs with rfl | ⟨j, rfl, j1, j2, j3⟩
    · unfold b12_1
      simp only
      have hq := hpl q0 (by simp)
      rw [if_pos (by rw [List.length_map, List.length_cons, decide_eq_true_eq]; omega), if_pos (by rw [List.length_map, List.length_cons]; omega), map_getD (by simp), show (q0 :: rest).getD (0 : Int).toNat [] = q0 from rfl, t30 q0 (by omega)]
      simp only [bindC]
      by_cases gq : okP q0
      · left
        rw [prs_ok gq, if_neg (by simp), if_neg (by simp)]
        have := prs_len q0
        have h9 := in8_3 (0, [], []) (prsV q0, true) rfl (by show (prsV q0).length ≤ _; omega)
        simp only at h9
        rw [h9, Option.getD_some]
        exact ⟨_, rfl, .inr ⟨0, rfl, by omega, gq, by simp⟩, by show rest.length + 1 - (1 : Int).toNat < rest.length + 1 - (0 : Int).toNat; simp⟩
      · right
        rw [prs_no gq, if_pos (by rfl)]
        exact ⟨_, rfl, by rw [hbad q0 (by simp) gq]⟩
    · unfold b12_1
      simp only
      by_cases g : j < rest.length
      · have hm := mem_getDs (d := []) g
        have hq := hpl _ (List.mem_cons_of_mem _ (List.mem_cons_of_mem _ hm))
        rw [if_pos (by rw [List.length_map, List.length_cons]; simp; omega), if_pos (by rw [List.length_map, List.length_cons]; omega), Int.toNat_natCast, map_getD (by simp; omega), show (q0 :: rest).getD (j + 1) [] = rest.getD j [] from rfl, t30 _ (by omega)]
        simp only [bindC]
        by_cases gq : okP (rest.getD j [])
        · left
          rw [prs_ok gq, if_neg (by simp), if_pos (by simp), if_pos (by rw [List.length_map, List.length_take]; omega)]
          have := prs_len (rest.getD j [])
          have h9 := in8_2 (((j + 1 : Nat) : Int), prsV q0, (rest.take j).map prsV) (prsV (rest.getD j []), true) (by simp only [List.length_map, List.length_take]; congr 2; omega) (by simp only [List.length_map, List.length_take]; omega) (by show (prsV (rest.getD j [])).length ≤ _; omega)
          simp only at h9
          rw [h9, Option.getD_some]
          refine ⟨_, rfl, .inr ⟨j + 1, ?_, g, j2, ?_⟩, by show rest.length + 1 - (((j + 1 : Nat) : Int) + 1).toNat < rest.length + 1 - ((j + 1 : Nat) : Int).toNat; omega⟩
          · rw [take_succ' rest [] g, List.map_append]; rfl
          · rw [take_succ' rest [] g]; intro p hp
            rcases List.mem_append.mp hp with hp | hp
            · exact j3 p hp
            · rw [List.mem_singleton] at hp; rw [hp]; exact gq
        · right
          rw [prs_no gq, if_pos (by rfl)]
          exact ⟨_, rfl, by rw [hbad _ (List.mem_cons_of_mem _ hm) gq]⟩
      · right
        obtain rfl : j = rest.length := by omega
        rw [List.take_length] at j3 ⊢
        have ha : v.1 = (pr2 p0).1 := congrArg Prod.fst hab
        have hb : v.2.1 = (pr2 p0).2 := congrArg Prod.snd hab
        rw [if_neg (by rw [List.length_map, List.length_cons]; simp), p24 _ _ _ _ (by rw [List.length_map]; omega) (fun x hx => by
          obtain ⟨p, hp, rfl⟩ := List.mem_map.1 hx
          exact hsm p (List.mem_cons_of_mem _ (List.mem_cons_of_mem _ hp))), Option.bind_some, ha, hb]
        exact ⟨_, rfl, parse_end hl hc0 g0 (fun p hp => by
          rcases List.mem_cons.mp hp with rfl | hp
          · exact j2
          · exact j3 p hp) _ rfl⟩
theorem s12 (a b : Int) (T : PL) (L : List PL) (hn : L.length < 1000) (hL : ∀ x ∈ L, x.length < 1000) : r65 a b T L = some (setupErrV a b T L).2 := by
  unfold r65
  rw [p26 a b T L hn hL]; rfl
end Go.Proofs.YthldpejmofhaoaaGreatDoor

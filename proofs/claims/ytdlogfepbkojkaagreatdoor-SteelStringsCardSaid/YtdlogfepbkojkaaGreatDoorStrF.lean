/- Strings: rules parsed by the reference. -/
import Derived.Test.YtdlogfepbkojkaaGreatDoorStrE
set_option linter.unusedVariables false
set_option linter.unusedSimpArgs false
namespace Go.Proofs.YtdlogfepbkojkaaGreatDoor
open Go.Abs

theorem in11_1 (v2 : List (List Int) × Bool) (v3 : List (List Int) × Bool) (v4 : List (List Int) × Bool) (v5 : List (List Int) × Bool) (v6 : List Int × Bool) (h : ∀ k ∈ v2.1, k.length = 4) (hl : v2.1.length ≤ 100000) :
    iterC (b11_1 v2 v3 v4 v5 v6) 1000000000 (0, []) = iterC (b11_2 v3 v4 v5 v6 (((v2.1.length : Nat) : Int), v2.1.map fourV)) 1000000000 (0, []) := by
  have := iter_rn v2.1.length (b11_1 v2 v3 v4 v5 v6) (fun i => ((i : Int), (v2.1.take i).map fourV)) (iterC (b11_2 v3 v4 v5 v6 (((v2.1.length : Nat) : Int), v2.1.map fourV)) 1000000000 (0, [])) (by omega) (fun i hi => ?_) ?_
  · exact this
  · have hk := knot_len h hi
    unfold b11_1
    simp only [Int.toNat_natCast]
    rw [if_pos (by simpa using hi), if_pos (by omega), if_pos (by omega), if_pos (by omega), if_pos (by omega), if_pos (by omega), if_pos (by omega), if_pos (by omega), if_pos (by omega), if_pos (by rw [List.length_map, List.length_take]; omega), wI (by omega) (by omega), take_succ' _ default hi, List.map_append]
    rfl
  · unfold b11_1
    simp only
    rw [if_neg (by simp), List.take_length]
theorem in11_2 (v3 : List (List Int) × Bool) (v4 : List (List Int) × Bool) (v5 : List (List Int) × Bool) (v6 : List Int × Bool) (s1 : Int × List (Int × Int × Int × Int)) (h : ∀ k ∈ v3.1, k.length = 5) (hl : v3.1.length ≤ 100000) :
    iterC (b11_2 v3 v4 v5 v6 s1) 1000000000 (0, []) = iterC (b11_3 v4 v5 v6 s1 (((v3.1.length : Nat) : Int), v3.1.map fiveV)) 1000000000 (0, []) := by
  have := iter_rn v3.1.length (b11_2 v3 v4 v5 v6 s1) (fun i => ((i : Int), (v3.1.take i).map fiveV)) (iterC (b11_3 v4 v5 v6 s1 (((v3.1.length : Nat) : Int), v3.1.map fiveV)) 1000000000 (0, [])) (by omega) (fun i hi => ?_) ?_
  · exact this
  · have hk := knot_len h hi
    unfold b11_2
    simp only [Int.toNat_natCast]
    rw [if_pos (by simpa using hi), if_pos (by omega), if_pos (by omega), if_pos (by omega), if_pos (by omega), if_pos (by omega), if_pos (by omega), if_pos (by omega), if_pos (by omega), if_pos (by omega), if_pos (by omega), if_pos (by rw [List.length_map, List.length_take]; omega), wI (by omega) (by omega), take_succ' _ default hi, List.map_append]
    rfl
  · unfold b11_2
    simp only
    rw [if_neg (by simp), List.take_length]
theorem in11_3 (v4 : List (List Int) × Bool) (v5 : List (List Int) × Bool) (v6 : List Int × Bool) (s1 : Int × List (Int × Int × Int × Int)) (s2 : Int × List (Int × Int × Int × Int × Int)) (h : ∀ k ∈ v4.1, k.length = 3) (hl : v4.1.length ≤ 100000) :
    iterC (b11_3 v4 v5 v6 s1 s2) 1000000000 (0, []) = iterC (b11_4 v5 v6 s1 s2 (((v4.1.length : Nat) : Int), v4.1.map triV)) 1000000000 (0, []) := by
  have := iter_rn v4.1.length (b11_3 v4 v5 v6 s1 s2) (fun i => ((i : Int), (v4.1.take i).map triV)) (iterC (b11_4 v5 v6 s1 s2 (((v4.1.length : Nat) : Int), v4.1.map triV)) 1000000000 (0, [])) (by omega) (fun i hi => ?_) ?_
  · exact this
  · have hk := knot_len h hi
    unfold b11_3
    simp only [Int.toNat_natCast]
    rw [if_pos (by simpa using hi), if_pos (by omega), if_pos (by omega), if_pos (by omega), if_pos (by omega), if_pos (by omega), if_pos (by omega), if_pos (by rw [List.length_map, List.length_take]; omega), wI (by omega) (by omega), take_succ' _ default hi, List.map_append]
    rfl
  · unfold b11_3
    simp only
    rw [if_neg (by simp), List.take_length]
theorem in11_4 (v5 : List (List Int) × Bool) (v6 : List Int × Bool) (s1 : Int × List (Int × Int × Int × Int)) (s2 : Int × List (Int × Int × Int × Int × Int)) (s3 : Int × List (Int × Int × Int)) (h : ∀ k ∈ v5.1, k.length = 2) (hl : v5.1.length ≤ 100000) :
    iterC (b11_4 v5 v6 s1 s2 s3) 1000000000 (0, []) = some (finR s1.2 s2.2 s3.2 (v5.1.map twoV) (v6.1.getD 0 default) (v6.1.getD 1 default) (v6.1.getD 2 default) (v6.1.getD 3 default)) := by
  have := iter_rn v5.1.length (b11_4 v5 v6 s1 s2 s3) (fun i => ((i : Int), (v5.1.take i).map twoV)) (some (finR s1.2 s2.2 s3.2 (v5.1.map twoV) (v6.1.getD 0 default) (v6.1.getD 1 default) (v6.1.getD 2 default) (v6.1.getD 3 default))) (by omega) (fun i hi => ?_) ?_
  · exact this
  · have hk := knot_len h hi
    unfold b11_4
    simp only [Int.toNat_natCast]
    rw [if_pos (by simpa using hi), if_pos (by omega), if_pos (by omega), if_pos (by omega), if_pos (by omega), if_pos (by rw [List.length_map, List.length_take]; omega), wI (by omega) (by omega), take_succ' _ default hi, List.map_append]
    rfl
  · unfold b11_4
    simp only
    rw [if_neg (by simp), List.take_length]
    rw [p16', Option.bind_some, finR]
    by_cases h : rulE s1.2 s2.2 s3.2 (v5.1.map twoV) (v6.1.getD 0 default) (v6.1.getD 1 default) (v6.1.getD 2 default) (v6.1.getD 3 default) = 0
    · rw [if_neg (by rw [h]; simp), if_pos h]
    · rw [if_pos (by simpa using h), if_neg h]; rfl
theorem s11 (l : List UInt8) (hl : l.length ≤ 9000) : r11 (lb l) = some (prV l) := by
  unfold r11
  have h47 : r37 (lb l) 47 = _ := s37 l 47 (by omega)
  rw [if_neg (by rw [size_lb, decide_eq_true_eq]; omega), h47, Option.bind_some]
  by_cases h : (cut 47 l).length = 5
  · rw [if_neg (by rw [List.length_map, h]; simp)]
    obtain ⟨p0, p1, p2, p3, p4, e⟩ := five_cases _ h
    have hp : ∀ p ∈ cut 47 l, p.length ≤ 9000 := fun p hp => Nat.le_trans (cut_len 47 l p hp) hl
    rw [prV_five (by omega) e]
    rw [e] at hp ⊢
    have l0 := hp p0 (by simp)
    have l1 := hp p1 (by simp)
    have l2 := hp p2 (by simp)
    have l3 := hp p3 (by simp)
    have l4 := hp p4 (by simp)
    obtain ⟨v2, a1, a2, a3⟩ := s38 p0 4 (by omega)
    obtain ⟨v3, b1, b2, b3⟩ := s38 p1 5 (by omega)
    obtain ⟨v4, c1, c2, c3⟩ := s38 p2 3 (by omega)
    obtain ⟨v5, d1, d2, d3⟩ := s38 p3 2 (by omega)
    obtain ⟨v6, e1, e2, e3⟩ := s39 p4 4 (by omega)
    have a1' : r38 (([p0, p1, p2, p3, p4].map lb).getD 0 default) 4 = some v2 := a1
    have b1' : r38 (([p0, p1, p2, p3, p4].map lb).getD 1 default) 5 = some v3 := b1
    have c1' : r38 (([p0, p1, p2, p3, p4].map lb).getD 2 default) 3 = some v4 := c1
    have d1' : r38 (([p0, p1, p2, p3, p4].map lb).getD 3 default) 2 = some v5 := d1
    have e1' : r39 (([p0, p1, p2, p3, p4].map lb).getD 4 default) 4 = some v6 := e1
    rw [if_pos (by simp), a1', Option.bind_some, if_pos (by simp), b1', Option.bind_some, if_pos (by simp), c1', Option.bind_some, if_pos (by simp), d1', Option.bind_some, if_pos (by simp), e1', Option.bind_some, a2, b2, c2, d2, e2, prP]
    by_cases g : GoodP p0 p1 p2 p3 p4
    · obtain ⟨g0, g1, g2, g3, g4⟩ := g
      have w6 := wvals_len g4
      have y2 := a3 (by rw [a2]; simpa using g0)
      have y3 := b3 (by rw [b2]; simpa using g1)
      have y4 := c3 (by rw [c2]; simpa using g2)
      have y5 := d3 (by rw [d2]; simpa using g3)
      have y6 := e3 (by rw [e2]; simpa using g4)
      have k0 := kvals_len p0
      have k1 := kvals_len p1
      have k2 := kvals_len p2
      have k3 := kvals_len p3
      rw [if_neg (by simp [g0, g1, g2, g3, g4]), if_pos (by rw [y6]; omega), if_pos (by rw [y6]; omega), if_pos (by rw [y6]; omega), if_pos (by rw [y6]; omega), if_pos ⟨g0, g1, g2, g3, g4⟩]
      rw [in11_1 v2 v3 v4 v5 v6 (by rw [y2]; exact kvals_mem g0) (by rw [y2]; omega), in11_2 v3 v4 v5 v6 _ (by rw [y3]; exact kvals_mem g1) (by rw [y3]; omega), in11_3 v4 v5 v6 _ _ (by rw [y4]; exact kvals_mem g2) (by rw [y4]; omega), in11_4 v5 v6 _ _ _ (by rw [y5]; exact kvals_mem g3) (by rw [y5]; omega), y2, y3, y4, y5, y6]
    · rw [if_neg g, if_pos]
      · rfl
      · simp only [Bool.or_eq_true, Bool.not_eq_true', decide_eq_false_iff_not]
        unfold GoodP at g
        by_cases g0 : GoodK 4 p0
        · by_cases g1 : GoodK 5 p1
          · by_cases g2 : GoodK 3 p2
            · by_cases g3 : GoodK 2 p3
              · exact .inr fun g4 => g ⟨g0, g1, g2, g3, g4⟩
              · exact .inl (.inr g3)
            · exact .inl (.inl (.inr g2))
          · exact .inl (.inl (.inl (.inr g1)))
        · exact .inl (.inl (.inl (.inl g0)))
  · rw [if_pos (by rw [List.length_map, bne_iff_ne]; omega), prV_not (by omega) h]; rfl
end Go.Proofs.YtdlogfepbkojkaaGreatDoor

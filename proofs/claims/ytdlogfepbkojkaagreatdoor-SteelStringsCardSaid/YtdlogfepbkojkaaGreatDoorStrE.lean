/- Strings: rules parsed, by the program and by the reference. -/
import Derived.Test.YtdlogfepbkojkaaGreatDoorStrD
set_option linter.unusedVariables false
set_option linter.unusedSimpArgs false
namespace Go.Proofs.YtdlogfepbkojkaaGreatDoor
open Go.Abs

def fourV (v : List Int) : Int × Int × Int × Int := (v.getD 0 default, v.getD 1 default, v.getD 2 default, v.getD 3 default)
def fiveV (v : List Int) : Int × Int × Int × Int × Int := (v.getD 0 default, v.getD 1 default, v.getD 2 default, v.getD 3 default, v.getD 4 default)
def triV (v : List Int) : Int × Int × Int := (v.getD 0 default, v.getD 1 default, v.getD 2 default)
def twoV (v : List Int) : Int × Int := (v.getD 0 default, v.getD 1 default)
abbrev RulT := (List (Int × Int × Int × Int)) × (List (Int × Int × Int × Int × Int)) × (List (Int × Int × Int)) × (List (Int × Int)) × Int × Int × Int × Int × Int
def badR (e : Int) : RulT := ([], [], [], [], 0, 0, 0, 0, e)
def finR (H : List (Int × Int × Int × Int)) (C : List (Int × Int × Int × Int × Int)) (Q : List (Int × Int × Int)) (T : List (Int × Int)) (a b c d : Int) : RulT :=
  if rulE H C Q T a b c d = 0 then (H, C, Q, T, a, b, c, d, 0) else badR (rulE H C Q T a b c d)
def GoodP (p0 p1 p2 p3 p4 : List UInt8) : Prop := GoodK 4 p0 ∧ GoodK 5 p1 ∧ GoodK 3 p2 ∧ GoodK 2 p3 ∧ GoodW 7 4 p4
instance (p0 p1 p2 p3 p4 : List UInt8) : Decidable (GoodP p0 p1 p2 p3 p4) := inferInstanceAs (Decidable (_ ∧ _ ∧ _ ∧ _ ∧ _))
def prP (p0 p1 p2 p3 p4 : List UInt8) : RulT :=
  if GoodP p0 p1 p2 p3 p4 then finR ((kvals p0).map fourV) ((kvals p1).map fiveV) ((kvals p2).map triV) ((kvals p3).map twoV) ((wvals p4).getD 0 default) ((wvals p4).getD 1 default) ((wvals p4).getD 2 default) ((wvals p4).getD 3 default)
  else badR 7
def prV (l : List UInt8) : RulT :=
  if 60000 < l.length then badR 8 else match cut 47 l with
  | [p0, p1, p2, p3, p4] => prP p0 p1 p2 p3 p4
  | _ => badR 7
theorem iterC_next {σ ρ : Type} {b : σ → Ctl σ ρ} {s s' : σ} {k : Nat} (h : b s = .next s') : iterC b (k + 1) s = iterC b k s' := by simp only [iterC, h]
theorem iterC_out {σ ρ : Type} {b : σ → Ctl σ ρ} {s : σ} {o : Option ρ} {k : Nat} (h : b s = .out o) : iterC b (k + 1) s = o := by simp only [iterC, h]
theorem iter_rn {σ ρ : Type} (n : Nat) (b : σ → Ctl σ ρ) (st : Nat → σ) (fin : Option ρ) (hn : n < 1000000000)
    (step : ∀ i : Nat, i < n → b (st i) = .next (st (i + 1))) (stop : b (st n) = .out fin) : iterC b 1000000000 (st 0) = fin := by
  have key : ∀ (k i fuel : Nat), i + k = n → k < fuel → iterC b fuel (st i) = fin := by
    intro k
    induction k with
    | zero =>
      intro i fuel hi hf
      obtain ⟨m, rfl⟩ : ∃ m, fuel = m + 1 := ⟨fuel - 1, by omega⟩
      obtain rfl : i = n := by omega
      simp [iterC, stop]
    | succ k ih =>
      intro i fuel hi hf
      obtain ⟨m, rfl⟩ : ∃ m, fuel = m + 1 := ⟨fuel - 1, by omega⟩
      simp only [iterC, step i (by omega)]
      exact ih (i + 1) m (by omega) (by omega)
  exact key n 0 1000000000 (by omega) hn
theorem knot_len {L : List (List Int)} {n i : Nat} (h : ∀ k ∈ L, k.length = n) (hi : i < L.length) : (L.getD i default).length = n := h _ (mem_getD' hi)
theorem in9_6 (s1 : Int × (List (Int × Int × Int × Int)) × (List (Int × Int × Int × Int × Int)) × (List (Int × Int × Int)) × (List (Int × Int)) × Int × Int × Int × Int) (v : List (List Int) × Bool) (acc : List (Int × Int × Int × Int)) (h : ∀ k ∈ v.1, k.length = 4) (hl : v.1.length + acc.length ≤ 100000) :
    iterC (b9_6 s1 v) 1000000000 (0, acc) = some (.next (1, acc ++ v.1.map fourV, s1.2.2.1, s1.2.2.2.1, s1.2.2.2.2.1, s1.2.2.2.2.2.1, s1.2.2.2.2.2.2.1, s1.2.2.2.2.2.2.2.1, s1.2.2.2.2.2.2.2.2)) := by
  have := iter_rn v.1.length (b9_6 s1 v) (fun i => ((i : Int), acc ++ (v.1.take i).map fourV)) (some (.next (1, acc ++ v.1.map fourV, s1.2.2.1, s1.2.2.2.1, s1.2.2.2.2.1, s1.2.2.2.2.2.1, s1.2.2.2.2.2.2.1, s1.2.2.2.2.2.2.2.1, s1.2.2.2.2.2.2.2.2))) (by omega) (fun i hi => ?_) ?_
  · simpa using this
  · have hk := knot_len h hi
    unfold b9_6
    simp only [Int.toNat_natCast]
    rw [if_pos (by simpa using hi), if_pos (by omega), if_pos (by omega), if_pos (by omega), if_pos (by omega), if_pos (by omega), if_pos (by rw [List.length_append, List.length_map, List.length_take]; omega), wI (by omega) (by omega), take_succ' _ default hi, List.map_append, List.append_assoc]
    rfl
  · unfold b9_6
    simp only
    rw [if_neg (by simp), List.take_length]
theorem in9_5 (s1 : Int × (List (Int × Int × Int × Int)) × (List (Int × Int × Int × Int × Int)) × (List (Int × Int × Int)) × (List (Int × Int)) × Int × Int × Int × Int) (v : List (List Int) × Bool) (acc : List (Int × Int × Int × Int × Int)) (h : ∀ k ∈ v.1, k.length = 5) (hl : v.1.length + acc.length ≤ 100000) :
    iterC (b9_5 s1 v) 1000000000 (0, acc) = some (.next (2, s1.2.1, acc ++ v.1.map fiveV, s1.2.2.2.1, s1.2.2.2.2.1, s1.2.2.2.2.2.1, s1.2.2.2.2.2.2.1, s1.2.2.2.2.2.2.2.1, s1.2.2.2.2.2.2.2.2)) := by
  have := iter_rn v.1.length (b9_5 s1 v) (fun i => ((i : Int), acc ++ (v.1.take i).map fiveV)) (some (.next (2, s1.2.1, acc ++ v.1.map fiveV, s1.2.2.2.1, s1.2.2.2.2.1, s1.2.2.2.2.2.1, s1.2.2.2.2.2.2.1, s1.2.2.2.2.2.2.2.1, s1.2.2.2.2.2.2.2.2))) (by omega) (fun i hi => ?_) ?_
  · simpa using this
  · have hk := knot_len h hi
    unfold b9_5
    simp only [Int.toNat_natCast]
    rw [if_pos (by simpa using hi), if_pos (by omega), if_pos (by omega), if_pos (by omega), if_pos (by omega), if_pos (by omega), if_pos (by omega), if_pos (by rw [List.length_append, List.length_map, List.length_take]; omega), wI (by omega) (by omega), take_succ' _ default hi, List.map_append, List.append_assoc]
    rfl
  · unfold b9_5
    simp only
    rw [if_neg (by simp), List.take_length]
theorem in9_4 (s1 : Int × (List (Int × Int × Int × Int)) × (List (Int × Int × Int × Int × Int)) × (List (Int × Int × Int)) × (List (Int × Int)) × Int × Int × Int × Int) (v : List (List Int) × Bool) (acc : List (Int × Int × Int)) (h : ∀ k ∈ v.1, k.length = 3) (hl : v.1.length + acc.length ≤ 100000) :
    iterC (b9_4 s1 v) 1000000000 (0, acc) = some (.next (3, s1.2.1, s1.2.2.1, acc ++ v.1.map triV, s1.2.2.2.2.1, s1.2.2.2.2.2.1, s1.2.2.2.2.2.2.1, s1.2.2.2.2.2.2.2.1, s1.2.2.2.2.2.2.2.2)) := by
  have := iter_rn v.1.length (b9_4 s1 v) (fun i => ((i : Int), acc ++ (v.1.take i).map triV)) (some (.next (3, s1.2.1, s1.2.2.1, acc ++ v.1.map triV, s1.2.2.2.2.1, s1.2.2.2.2.2.1, s1.2.2.2.2.2.2.1, s1.2.2.2.2.2.2.2.1, s1.2.2.2.2.2.2.2.2))) (by omega) (fun i hi => ?_) ?_
  · simpa using this
  · have hk := knot_len h hi
    unfold b9_4
    simp only [Int.toNat_natCast]
    rw [if_pos (by simpa using hi), if_pos (by omega), if_pos (by omega), if_pos (by omega), if_pos (by omega), if_pos (by rw [List.length_append, List.length_map, List.length_take]; omega), wI (by omega) (by omega), take_succ' _ default hi, List.map_append, List.append_assoc]
    rfl
  · unfold b9_4
    simp only
    rw [if_neg (by simp), List.take_length]
theorem in9_3 (s1 : Int × (List (Int × Int × Int × Int)) × (List (Int × Int × Int × Int × Int)) × (List (Int × Int × Int)) × (List (Int × Int)) × Int × Int × Int × Int) (v : List (List Int) × Bool) (acc : List (Int × Int)) (h : ∀ k ∈ v.1, k.length = 2) (hl : v.1.length + acc.length ≤ 100000) :
    iterC (b9_3 s1 v) 1000000000 (0, acc) = some (.next (4, s1.2.1, s1.2.2.1, s1.2.2.2.1, acc ++ v.1.map twoV, s1.2.2.2.2.2.1, s1.2.2.2.2.2.2.1, s1.2.2.2.2.2.2.2.1, s1.2.2.2.2.2.2.2.2)) := by
  have := iter_rn v.1.length (b9_3 s1 v) (fun i => ((i : Int), acc ++ (v.1.take i).map twoV)) (some (.next (4, s1.2.1, s1.2.2.1, s1.2.2.2.1, acc ++ v.1.map twoV, s1.2.2.2.2.2.1, s1.2.2.2.2.2.2.1, s1.2.2.2.2.2.2.2.1, s1.2.2.2.2.2.2.2.2))) (by omega) (fun i hi => ?_) ?_
  · simpa using this
  · have hk := knot_len h hi
    unfold b9_3
    simp only [Int.toNat_natCast]
    rw [if_pos (by simpa using hi), if_pos (by omega), if_pos (by omega), if_pos (by omega), if_pos (by rw [List.length_append, List.length_map, List.length_take]; omega), wI (by omega) (by omega), take_succ' _ default hi, List.map_append, List.append_assoc]
    rfl
  · unfold b9_3
    simp only
    rw [if_neg (by simp), List.take_length]
theorem in9_2 (s1 : Int × (List (Int × Int × Int × Int)) × (List (Int × Int × Int × Int × Int)) × (List (Int × Int × Int)) × (List (Int × Int)) × Int × Int × Int × Int) (v : List (List Int) × Bool) (k : List Int) (e : v.1 = [k]) (h : k.length = 4) (z : Int × Int × Int × Int) :
    iterC (b9_2 s1 v) 1000000000 (0, z) = some (.next (5, s1.2.1, s1.2.2.1, s1.2.2.2.1, s1.2.2.2.2.1, k.getD 0 default, k.getD 1 default, k.getD 2 default, k.getD 3 default)) := by
  have h1 : b9_2 s1 v (0, z) = .next (1, k.getD 0 default, k.getD 1 default, k.getD 2 default, k.getD 3 default) := by
    unfold b9_2
    simp only
    rw [e]
    rw [if_pos (by rfl), if_pos (by simp), if_pos (by show 4 ≤ k.length; omega)]
    rfl
  have h2 : b9_2 s1 v (1, k.getD 0 default, k.getD 1 default, k.getD 2 default, k.getD 3 default) = .out (some (.next (5, s1.2.1, s1.2.2.1, s1.2.2.2.1, s1.2.2.2.2.1, k.getD 0 default, k.getD 1 default, k.getD 2 default, k.getD 3 default))) := by
    unfold b9_2
    simp only
    rw [e, if_neg (by simp)]
  rw [show (1000000000 : Nat) = 999999998 + 1 + 1 from rfl, iterC_next h1, iterC_out h2]
theorem cut_one {c : UInt8} {l x : List UInt8} (h : cut c l = [x]) : x = l := by
  rcases cut_index (c := c) l with ⟨_, h2⟩ | ⟨i, _, _, h3, h4⟩
  · rw [cut_none h2] at h; simpa using h.symm
  · rw [h4, cut_at _ _ h3] at h
    have := congrArg List.length h
    have hp := List.length_pos_iff.mpr (cut_ne c (l.drop (i + 1)))
    simp only [List.length_cons, List.length_nil] at this
    omega
theorem cut_has {c b : UInt8} (hbc : b ≠ c) : ∀ (l : List UInt8), b ∈ l → ∃ w ∈ cut c l, b ∈ w
  | [], h => by cases h
  | a :: r, h => by
    rw [cut]
    by_cases e : a = c
    · rw [if_pos e]
      rcases List.mem_cons.mp h with rfl | h
      · exact absurd e hbc
      · obtain ⟨w, hw, hb⟩ := cut_has hbc r h
        exact ⟨w, List.mem_cons_of_mem _ hw, hb⟩
    · rw [if_neg e]
      split
      · rename_i hd t hc
        rcases List.mem_cons.mp h with rfl | h
        · exact ⟨_, List.mem_cons_self .., List.mem_cons_self ..⟩
        · obtain ⟨w, hw, hb⟩ := cut_has hbc r h
          rw [hc] at hw
          rcases List.mem_cons.mp hw with rfl | hw
          · exact ⟨_, List.mem_cons_self .., List.mem_cons_of_mem _ hb⟩
          · exact ⟨w, List.mem_cons_of_mem _ hw, hb⟩
      · rename_i hc
        exact absurd hc (cut_ne c r)
theorem goodW_no {k n : Nat} {l : List UInt8} (h : GoodW k n l) {c : UInt8} (hc : ¬ dig c) (h32 : c ≠ 32) : c ∉ l := fun hm => by
  obtain ⟨w, hw, hb⟩ := cut_has h32 l hm
  exact hc ((h.2 w hw).1.2.1 c hb)
theorem goodW_ne {k n : Nat} {l : List UInt8} (h : GoodW k n l) : l ≠ [] := fun e => by
  subst e
  have := (h.2 [] (by simp [cut])).1.1
  exact this rfl
/-- the last part: one knot -/
theorem last_iff (l : List UInt8) (n : Nat) : (GoodK n l ∧ (kvals l).length = 1) ↔ GoodW 7 n l := by
  constructor
  · rintro ⟨h1, h2⟩
    have hl : l ≠ [] := fun e => by rw [kvals, if_pos e] at h2; cases h2
    rw [kvals, if_neg hl, List.length_map] at h2
    obtain ⟨x, hx⟩ := List.length_eq_one_iff.1 h2
    have := h1.resolve_left hl x (by rw [hx]; simp)
    rwa [cut_one hx] at this
  · intro h
    have hl := goodW_ne h
    have h59 : cut 59 l = [l] := cut_none (goodW_no h (by decide) (by decide))
    refine ⟨.inr (by rw [h59]; intro p hp; rw [List.mem_singleton] at hp; rw [hp]; exact h), by rw [kvals, if_neg hl, h59]; rfl⟩
theorem kvals_one {n : Nat} {l : List UInt8} (h : GoodW 7 n l) : kvals l = [wvals l] := by
  have h59 : cut 59 l = [l] := cut_none (goodW_no h (by decide) (by decide))
  rw [kvals, if_neg (goodW_ne h), h59]; rfl
section
variable {p0 p1 p2 p3 p4 : List UInt8} (H : List (Int × Int × Int × Int)) (C : List (Int × Int × Int × Int × Int)) (Q : List (Int × Int × Int)) (T : List (Int × Int)) (a b c d : Int)
theorem st9_0 (hl : p0.length ≤ 9000) : b9_1 ([p0, p1, p2, p3, p4].map lb) (0, [], C, Q, T, a, b, c, d) = if GoodK 4 p0 then .next (1, (kvals p0).map fourV, C, Q, T, a, b, c, d) else .out (some (badR 7)) := by
  obtain ⟨v, e1, e2, e3⟩ := s33 p0 4 (by omega)
  have e1' : r33 (([p0, p1, p2, p3, p4].map lb).getD 0 default) 4 = some v := e1
  have hw : IntKind.i64.wrap (((([p0, p1, p2, p3, p4] : List (List UInt8)).map lb).length : Int) - 1) = 4 := rfl
  unfold b9_1
  dsimp only
  rw [if_pos (by rfl), if_pos (by simp), if_pos (by rfl), e1']
  simp only [bindC]
  rw [hw]
  by_cases g : GoodK 4 p0
  · have hv : v.2 = true := by rw [e2]; simpa using g
    have hk := kvals_len p0
    rw [if_neg (by rw [hv]; simp), in9_6 _ v [] (by rw [e3 hv]; exact kvals_mem g) (by rw [e3 hv]; simp; omega), Option.getD_some, if_pos g, e3 hv]
    rfl
  · have hv : v.2 = false := by rw [e2]; simpa using g
    rw [if_pos (by rw [hv]; rfl), if_neg g]; rfl
theorem st9_1 (hl : p1.length ≤ 9000) : b9_1 ([p0, p1, p2, p3, p4].map lb) (1, H, [], Q, T, a, b, c, d) = if GoodK 5 p1 then .next (2, H, (kvals p1).map fiveV, Q, T, a, b, c, d) else .out (some (badR 7)) := by
  obtain ⟨v, e1, e2, e3⟩ := s33 p1 5 (by omega)
  have e1' : r33 (([p0, p1, p2, p3, p4].map lb).getD 1 default) 5 = some v := e1
  have hw : IntKind.i64.wrap (((([p0, p1, p2, p3, p4] : List (List UInt8)).map lb).length : Int) - 1) = 4 := rfl
  unfold b9_1
  dsimp only
  rw [if_pos (by rfl), if_pos (by simp), if_neg (by decide), if_pos (by rfl), e1']
  simp only [bindC]
  rw [hw]
  by_cases g : GoodK 5 p1
  · have hv : v.2 = true := by rw [e2]; simpa using g
    have hk := kvals_len p1
    rw [if_neg (by rw [hv]; simp), in9_5 _ v [] (by rw [e3 hv]; exact kvals_mem g) (by rw [e3 hv]; simp; omega), Option.getD_some, if_pos g, e3 hv]
    rfl
  · have hv : v.2 = false := by rw [e2]; simpa using g
    rw [if_pos (by rw [hv]; rfl), if_neg g]; rfl
theorem st9_2 (hl : p2.length ≤ 9000) : b9_1 ([p0, p1, p2, p3, p4].map lb) (2, H, C, [], T, a, b, c, d) = if GoodK 3 p2 then .next (3, H, C, (kvals p2).map triV, T, a, b, c, d) else .out (some (badR 7)) := by
  obtain ⟨v, e1, e2, e3⟩ := s33 p2 3 (by omega)
  have e1' : r33 (([p0, p1, p2, p3, p4].map lb).getD 2 default) 3 = some v := e1
  have hw : IntKind.i64.wrap (((([p0, p1, p2, p3, p4] : List (List UInt8)).map lb).length : Int) - 1) = 4 := rfl
  unfold b9_1
  dsimp only
  rw [if_pos (by rfl), if_pos (by simp), if_neg (by decide), if_neg (by decide), if_pos (by rfl), e1']
  simp only [bindC]
  rw [hw]
  by_cases g : GoodK 3 p2
  · have hv : v.2 = true := by rw [e2]; simpa using g
    have hk := kvals_len p2
    rw [if_neg (by rw [hv]; simp), in9_4 _ v [] (by rw [e3 hv]; exact kvals_mem g) (by rw [e3 hv]; simp; omega), Option.getD_some, if_pos g, e3 hv]
    rfl
  · have hv : v.2 = false := by rw [e2]; simpa using g
    rw [if_pos (by rw [hv]; rfl), if_neg g]; rfl
theorem st9_3 (hl : p3.length ≤ 9000) : b9_1 ([p0, p1, p2, p3, p4].map lb) (3, H, C, Q, [], a, b, c, d) = if GoodK 2 p3 then .next (4, H, C, Q, (kvals p3).map twoV, a, b, c, d) else .out (some (badR 7)) := by
  obtain ⟨v, e1, e2, e3⟩ := s33 p3 2 (by omega)
  have e1' : r33 (([p0, p1, p2, p3, p4].map lb).getD 3 default) 2 = some v := e1
  have hw : IntKind.i64.wrap (((([p0, p1, p2, p3, p4] : List (List UInt8)).map lb).length : Int) - 1) = 4 := rfl
  unfold b9_1
  dsimp only
  rw [if_pos (by rfl), if_pos (by simp), if_neg (by decide), if_neg (by decide), if_neg (by decide), if_pos (by rfl), e1']
  simp only [bindC]
  rw [hw]
  by_cases g : GoodK 2 p3
  · have hv : v.2 = true := by rw [e2]; simpa using g
    have hk := kvals_len p3
    rw [if_neg (by rw [hv]; simp), in9_3 _ v [] (by rw [e3 hv]; exact kvals_mem g) (by rw [e3 hv]; simp; omega), Option.getD_some, if_pos g, e3 hv]
    rfl
  · have hv : v.2 = false := by rw [e2]; simpa using g
    rw [if_pos (by rw [hv]; rfl), if_neg g]; rfl
theorem st9_4 (hl : p4.length ≤ 9000) : b9_1 ([p0, p1, p2, p3, p4].map lb) (4, H, C, Q, T, a, b, c, d) = if GoodW 7 4 p4 then .next (5, H, C, Q, T, (wvals p4).getD 0 default, (wvals p4).getD 1 default, (wvals p4).getD 2 default, (wvals p4).getD 3 default) else .out (some (badR 7)) := by
  obtain ⟨v, e1, e2, e3⟩ := s33 p4 4 (by omega)
  have e1' : r33 (([p0, p1, p2, p3, p4].map lb).getD 4 default) 4 = some v := e1
  have hw : IntKind.i64.wrap (((([p0, p1, p2, p3, p4] : List (List UInt8)).map lb).length : Int) - 1) = 4 := rfl
  unfold b9_1
  dsimp only
  rw [if_pos (by rfl), if_pos (by simp), if_neg (by decide), if_neg (by decide), if_neg (by decide), if_neg (by decide), if_pos (by rfl), e1']
  simp only [bindC]
  rw [hw]
  by_cases g : GoodW 7 4 p4
  · have gk := (last_iff p4 4).2 g
    have hv : v.2 = true := by rw [e2]; simpa using gk.1
    rw [if_neg (by rw [hv, e3 hv, gk.2]; simp), in9_2 _ v (wvals p4) (by rw [e3 hv]; exact kvals_one g) (wvals_len g), Option.getD_some, if_pos g]
  · rw [if_neg g, if_pos]
    · rfl
    · by_cases gk : GoodK 4 p4
      · have hv : v.2 = true := by rw [e2]; simpa using gk
        have hne : (kvals p4).length ≠ 1 := fun h => g ((last_iff p4 4).1 ⟨gk, h⟩)
        rw [hv, e3 hv]
        simp only [Bool.not_true, Bool.false_or, Bool.and_eq_true, bne_iff_ne, ne_eq]
        exact ⟨by rfl, by omega⟩
      · have hv : v.2 = false := by rw [e2]; simpa using gk
        rw [hv]; rfl
theorem st9_5 (hH : H.length ≤ 10000) (hC : C.length ≤ 10000) (hQ : Q.length ≤ 10000) (hT : T.length ≤ 10000) : b9_1 ([p0, p1, p2, p3, p4].map lb) (5, H, C, Q, T, a, b, c, d) = .out (some (finR H C Q T a b c d)) := by
  unfold b9_1
  simp only
  rw [if_neg (by simp), p34 a b c d hH hC hQ hT, Option.bind_some, finR]
  by_cases h : rulE H C Q T a b c d = 0
  · rw [if_neg (by rw [h]; simp), if_pos h]
  · rw [if_pos (by simpa using h), if_neg h]; rfl
end
theorem run9 (p0 p1 p2 p3 p4 : List UInt8) (h0 : p0.length ≤ 9000) (h1 : p1.length ≤ 9000) (h2 : p2.length ≤ 9000) (h3 : p3.length ≤ 9000) (h4 : p4.length ≤ 9000) :
    iterC (b9_1 ([p0, p1, p2, p3, p4].map lb)) 1000000000 (0, [], [], [], [], 0, 0, 0, 0) = some (prP p0 p1 p2 p3 p4) := by
  unfold prP
  rw [show (1000000000 : Nat) = 999999994 + 1 + 1 + 1 + 1 + 1 + 1 from rfl]
  by_cases g0 : GoodK 4 p0
  · rw [iterC_next ((st9_0 [] [] [] 0 0 0 0 h0).trans (if_pos g0))]
    by_cases g1 : GoodK 5 p1
    · rw [iterC_next ((st9_1 _ [] [] 0 0 0 0 h1).trans (if_pos g1))]
      by_cases g2 : GoodK 3 p2
      · rw [iterC_next ((st9_2 _ _ [] 0 0 0 0 h2).trans (if_pos g2))]
        by_cases g3 : GoodK 2 p3
        · rw [iterC_next ((st9_3 _ _ _ 0 0 0 0 h3).trans (if_pos g3))]
          by_cases g4 : GoodW 7 4 p4
          · have k0 := kvals_len p0
            have k1 := kvals_len p1
            have k2 := kvals_len p2
            have k3 := kvals_len p3
            rw [iterC_next ((st9_4 _ _ _ _ 0 0 0 0 h4).trans (if_pos g4)), iterC_out (st9_5 _ _ _ _ _ _ _ _ (by rw [List.length_map]; omega) (by rw [List.length_map]; omega) (by rw [List.length_map]; omega) (by rw [List.length_map]; omega)), if_pos ⟨g0, g1, g2, g3, g4⟩]
          · rw [iterC_out ((st9_4 _ _ _ _ 0 0 0 0 h4).trans (if_neg g4)), if_neg (fun h => g4 h.2.2.2.2)]
        · rw [iterC_out ((st9_3 _ _ _ 0 0 0 0 h3).trans (if_neg g3)), if_neg (fun h => g3 h.2.2.2.1)]
      · rw [iterC_out ((st9_2 _ _ [] 0 0 0 0 h2).trans (if_neg g2)), if_neg (fun h => g2 h.2.2.1)]
    · rw [iterC_out ((st9_1 _ [] [] 0 0 0 0 h1).trans (if_neg g1)), if_neg (fun h => g1 h.2.1)]
  · rw [iterC_out ((st9_0 [] [] [] 0 0 0 0 h0).trans (if_neg g0)), if_neg (fun h => g0 h.1)]
theorem five_cases {α : Type} (l : List α) (h : l.length = 5) : ∃ a b c d e, l = [a, b, c, d, e] := by
  match l, h with
  | [a, b, c, d, e], _ => exact ⟨a, b, c, d, e, rfl⟩
theorem prV_five {l : List UInt8} (hl : l.length ≤ 60000) {p0 p1 p2 p3 p4 : List UInt8} (h : cut 47 l = [p0, p1, p2, p3, p4]) : prV l = prP p0 p1 p2 p3 p4 := by
  rw [prV, if_neg (by omega), h]
theorem prV_not {l : List UInt8} (hl : l.length ≤ 60000) (h : (cut 47 l).length ≠ 5) : prV l = badR 7 := by
  rw [prV, if_neg (by omega)]
  split
  · rename_i e; rw [e] at h; exact absurd rfl h
  · rfl
theorem s9 (l : List UInt8) (hl : l.length ≤ 9000) : r9 (lb l) = some (prV l) := by
  unfold r9
  rw [if_neg (by rw [size_lb, decide_eq_true_eq]; omega), a32 l 47 (by omega), Option.bind_some]
  by_cases h : (cut 47 l).length = 5
  · rw [if_neg (by rw [List.length_map, h]; simp)]
    obtain ⟨p0, p1, p2, p3, p4, e⟩ := five_cases _ h
    have hp : ∀ p ∈ cut 47 l, p.length ≤ 9000 := fun p hp => Nat.le_trans (cut_len 47 l p hp) hl
    rw [e] at hp ⊢
    rw [run9 p0 p1 p2 p3 p4 (hp _ (by simp)) (hp _ (by simp)) (hp _ (by simp)) (hp _ (by simp)) (hp _ (by simp)), prV_five (by omega) e]
  · rw [if_pos (by rw [List.length_map, bne_iff_ne]; omega), prV_not (by omega) h]; rfl
end Go.Proofs.YtdlogfepbkojkaaGreatDoor

/- SteelFaster as a plain law: the law itself. -/
import Derived.Test.YtfkmbdfajpdjjaaDoorSteelFa
set_option linter.unusedVariables false
set_option linter.unusedSimpArgs false
namespace Go.Proofs.YtfkmbdfajpdjjaaDoor
open Go.Abs

def hotB (H : List (Int × Int × Int × Int)) (k : Int) : Bool := (decide ((H.length : Int) > 0)) && (decide (k ≥ ((H.getD 0 default).1)))
theorem faster (H : List (Int × Int × Int × Int)) (C : List (Int × Int × Int × Int × Int)) (Q : List (Int × Int × Int)) (T : List (Int × Int)) (a b c d p s e m w g t : Int) (l : List Int) (x1 x2 x3 y1 y2 y3 : Int) :
    r4 H C Q T a b c d p s e m w g t l x1 x2 x3 y1 y2 y3 = some true := by
  obtain ⟨v, hv⟩ := rulV_some H C Q T a b c d
  unfold r4
  rw [awakeS, Option.bind_some]
  refine (if_neg (by decide)).trans ?_
  rw [p13, Option.bind_some]
  by_cases hf : H.length ≤ 10 ∧ C.length ≤ 10 ∧ Q.length ≤ 10 ∧ T.length ≤ 10
  · by_cases hl : 30 < l.length
    · have hl2 : (decide ((l.length : Int) > 30)) = true := decide_eq_true (by omega)
      simp only [hl2, Bool.or_true, Bool.true_or, Bool.not_true]
      refine (if_pos (fun h => by cases h)).trans ((if_pos (fun h => by cases h)).trans ((if_pos (fun h => by cases h)).trans ((if_pos (fun h => by cases h)).trans ((if_pos (fun h => by cases h)).trans (if_pos trivial)))))
    · have hl2 : (decide ((l.length : Int) > 30)) = false := decide_eq_false (by omega)
      have hf2 : (decide (H.length ≤ 10 ∧ C.length ≤ 10 ∧ Q.length ≤ 10 ∧ T.length ≤ 10)) = true := decide_eq_true hf
      simp only [hl2, hf2, p21 hv, p18, p22 l (by omega), p20, Option.isSome_some, Option.getD_some, implies_true]
      refine (if_pos trivial).trans ((if_pos trivial).trans ((if_pos trivial).trans ((if_pos trivial).trans ((if_pos trivial).trans ?_))))
      by_cases h0 : v.2 = 0
      · by_cases hs : staE p s e m w g t = 0
        · by_cases hc : curveE l = 0
          · by_cases hp : pickE x1 x2 x3 = 0
            · by_cases hq : pickE y1 y2 y3 = 0
              · refine (if_neg (by simp [h0, hs, hc, hp, hq])).trans ?_
                have ok := rul_of hv h0
                have st := st_of hs
                have fin : ∀ u : Bool × Bool, (u.1 = true → ∀ k ∈ l, heatAt H k ≠ none) → (u.2 = true → C = [] ∧ ∀ k ∈ l, heatAt H k = none) →
                    b4_1 H C Q T a b c d p s e m w g t l x1 x2 x3 y1 y2 y3 (u.1, u.2, (l.length : Int)) = .out (some true) := fun u hu1 hu2 => by
                  refine (if_neg (by simp)).trans ?_
                  rw [p15 a b c d hf, Option.bind_some, p24 l (by omega), Option.bind_some]
                  show Ctl.out ((r23 H C Q T a b c d p s e m w g t l x1 x2 x3).bind fun v7 => (r23 H C Q T a b c d p s e m w g t l y1 y2 y3).bind fun v8 => _) = _
                  have qA := p23 ok hv h0 hp l hc st
                  have qB := p23 ok hv h0 hq l hc st
                  obtain ⟨k1, k2, k3⟩ := pick_ok hp
                  obtain ⟨j1, j2, j3⟩ := pick_ok hq
                  have st7 : StO (p, s, e, m, w, g, t) := st
                  have f1 : u.1 = true → (x1 ≤ y1 → (runV H C Q T x1 x2 x3 l (p, s, e, m, w, g, t)).2.1 ≤ (runV H C Q T y1 y2 y3 l (p, s, e, m, w, g, t)).2.1) ∧ (y1 ≤ x1 → (runV H C Q T y1 y2 y3 l (p, s, e, m, w, g, t)).2.1 ≤ (runV H C Q T x1 x2 x3 l (p, s, e, m, w, g, t)).2.1) := fun h =>
                    ⟨fun hle => hot_run ok.toKnOk k1 k2 k3 j1 j2 j3 hle l _ _ (hu1 h) st7 st7 (Int.le_refl _), fun hle => hot_run ok.toKnOk j1 j2 j3 k1 k2 k3 hle l _ _ (hu1 h) st7 st7 (Int.le_refl _)⟩
                  have f2 : u.2 = true → (x3 ≤ y3 → (runV H C Q T x1 x2 x3 l (p, s, e, m, w, g, t)).2.2.2.1 ≤ (runV H C Q T y1 y2 y3 l (p, s, e, m, w, g, t)).2.2.2.1) ∧ (y3 ≤ x3 → (runV H C Q T y1 y2 y3 l (p, s, e, m, w, g, t)).2.2.2.1 ≤ (runV H C Q T x1 x2 x3 l (p, s, e, m, w, g, t)).2.2.2.1) := fun h =>
                    ⟨fun hle => cold_run ok.toKnOk (hu2 h).1 k1 k2 k3 j1 j2 j3 hle l _ _ (hu2 h).2 st7 st7 rfl (Int.le_refl _), fun hle => cold_run ok.toKnOk (hu2 h).1 j1 j2 j3 k1 k2 k3 hle l _ _ (hu2 h).2 st7 st7 rfl (Int.le_refl _)⟩
                  rw [qA, qB]
                  generalize runV H C Q T x1 x2 x3 l (p, s, e, m, w, g, t) = A at f1 f2
                  generalize runV H C Q T y1 y2 y3 l (p, s, e, m, w, g, t) = B at f1 f2
                  congr 1
                  show (if ((0 : Int) != 0 || (0 : Int) != 0) = true then some false else if (u.1 && ((decide (x1 ≤ y1) && decide (A.2.1 > B.2.1)) || (decide (x1 ≥ y1) && decide (A.2.1 < B.2.1)))) = true then some false else some ((!u.2) || ((decide (x3 > y3) || decide (A.2.2.2.1 ≤ B.2.2.2.1)) && (decide (x3 < y3) || decide (A.2.2.2.1 ≥ B.2.2.2.1))))) = _
                  refine (if_neg (by decide)).trans ((if_neg ?_).trans ?_)
                  · simp only [Bool.and_eq_true, Bool.or_eq_true, decide_eq_true_eq]
                    rintro ⟨h, h2⟩
                    have := f1 h
                    omega
                  · congr 1
                    cases hc2 : u.2 with
                    | false => rfl
                    | true =>
                      have := f2 hc2
                      simp only [Bool.not_true, Bool.false_or, Bool.and_eq_true, Bool.or_eq_true, decide_eq_true_eq]
                      omega
                have hB := iter_list (τ := Bool × Bool) l (b4_1 H C Q T a b c d p s e m w g t l x1 x2 x3 y1 y2 y3) (fun i u => (u.1, u.2, i)) (fun _ u x => .next (u.1 && hotB H x, u.2 && !hotB H x))
                  (fun u => match b4_1 H C Q T a b c d p s e m w g t l x1 x2 x3 y1 y2 y3 (u.1, u.2, (l.length : Int)) with | .out q => q | .next _ => none) (by omega)
                  (fun i u hi => by
                    refine (if_pos (ltN hi)).trans ((if_pos (fun _ => rgN hi)).trans ((if_pos (fun h => ⟨by decide, by simpa using h⟩)).trans ?_))
                    rw [Int.toNat_natCast, wS i (by omega)]; rfl)
                  (fun u => by
                    have : ∃ q, b4_1 H C Q T a b c d p s e m w g t l x1 x2 x3 y1 y2 y3 (u.1, u.2, (l.length : Int)) = .out q := ⟨_, if_neg (by simp)⟩
                    obtain ⟨q, hq⟩ := this
                    simp only [hq]) (true, (C.length : Int) == 0)
                refine hB.trans ?_
                have key : ∀ (r : List Int) (i : Int) (u : Bool × Bool) (E : Bool × Bool → Option Bool), foldC (fun _ u x => Ctl.next (u.1 && hotB H x, u.2 && !hotB H x)) E i r u = E (u.1 && r.all (hotB H), u.2 && r.all fun x => !hotB H x) := by
                  intro r
                  induction r with
                  | nil => intro i u E; simp [foldC]
                  | cons x r ih =>
                    intro i u E
                    show foldC _ E (i + 1) r (u.1 && hotB H x, u.2 && !hotB H x) = _
                    rw [ih]
                    simp only [List.all_cons, Bool.and_assoc]
                rw [key]
                have hot_of : ∀ k, hotB H k = true ↔ heatAt H k ≠ none := fun k => by
                  rw [hot_iff ok]
                  unfold hotB
                  simp only [Bool.and_eq_true, decide_eq_true_eq]
                  constructor
                  · rintro ⟨h1, h2⟩; exact ⟨by omega, by omega⟩
                  · rintro ⟨h1, h2⟩; exact ⟨by omega, by omega⟩
                have := fin (true && l.all (hotB H), ((C.length : Int) == 0) && l.all fun x => !hotB H x) (fun h k hk => (hot_of k).1 (List.all_eq_true.1 (by simpa using h) k hk)) (fun h => by
                  have h1 := (Bool.and_eq_true _ _ ▸ h : _ ∧ _)
                  refine ⟨by have := h1.1; simpa using this, fun k hk => ?_⟩
                  have h2 := List.all_eq_true.1 h1.2 k hk
                  simp only [Bool.not_eq_true'] at h2
                  by_cases hn : heatAt H k = none
                  · exact hn
                  · have := (hot_of k).2 hn; rw [h2] at this; cases this)
                simp only [this]
              · exact if_pos (by simp [hq])
            · exact if_pos (by simp [hp])
          · exact if_pos (by simp [hc])
        · exact if_pos (by simp [hs])
      · exact if_pos (by simp [h0])
  · have hf2 : (decide (H.length ≤ 10 ∧ C.length ≤ 10 ∧ Q.length ≤ 10 ∧ T.length ≤ 10)) = false := decide_eq_false hf
    simp only [hf2, Bool.not_false, Bool.true_or, Bool.not_true]
    refine (if_pos (fun h => by cases h)).trans ((if_pos (fun h => by cases h)).trans ((if_pos (fun h => by cases h)).trans ((if_pos (fun h => by cases h)).trans ((if_pos (fun h => by cases h)).trans (if_pos trivial)))))
end Go.Proofs.YtfkmbdfajpdjjaaDoor

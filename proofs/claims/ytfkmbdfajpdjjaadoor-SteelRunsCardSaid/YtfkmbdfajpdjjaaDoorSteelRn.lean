/- SteelRuns as a plain law. -/
import Derived.Test.YtfkmbdfajpdjjaaDoorSteelSt
import Derived.Test.YtfkmbdfajpdjjaaDoorF15
set_option linter.unusedVariables false
set_option linter.unusedSimpArgs false
namespace Go.Proofs.YtfkmbdfajpdjjaaDoor
open Go.Abs

abbrev st8 (x : St7) (y : Int) : Int × Int × Int × Int × Int × Int × Int × Int := (x.1, x.2.1, x.2.2.1, x.2.2.2.1, x.2.2.2.2.1, x.2.2.2.2.2.1, x.2.2.2.2.2.2, y)
section
variable {H : List (Int × Int × Int × Int)} {C : List (Int × Int × Int × Int × Int)} {Q : List (Int × Int × Int)} {T : List (Int × Int)} {a b c d : Int}
theorem j8_4_ok {p s e m w g t ph pc pq s4 : Int} {l : List Int} {v7 : Int × Int × Int × Int × Int × Int × Int × Int}
    (h1 : s4 ≠ 0 → v7 = (0, 0, 0, 0, 0, 0, 0, s4)) (h2 : s4 = 0 → ∃ X : St7, v7 = st8 X 0 ∧ r40 H C Q T a b c d p s e m w g t l ph pc pq = some X) :
    j8_4 H C Q T a b c d p s e m w g t l ph pc pq v7 s4 = some true := by
  unfold j8_4
  by_cases h : s4 = 0
  · obtain ⟨X, rfl, hX⟩ := h2 h
    subst h
    rw [hX]
    refine (if_neg (by decide)).trans ((if_pos (fun _ => rfl)).trans ?_)
    simp
  · rw [h1 h]
    refine (if_pos (by simpa using h)).trans ?_
    simp
theorem j8_3_ok {p s e m w g t ph pc pq k s3 : Int} {l : List Int} (hl : l.length < 1000000000) {v5 v7 : Int × Int × Int × Int × Int × Int × Int × Int} {v9 : Int × Int}
    (h1 : s3 ≠ 0 → v5 = (0, 0, 0, 0, 0, 0, 0, s3)) (h2 : s3 = 0 → ∃ X : St7, v5 = st8 X 0 ∧ r39 H C Q T a b c d p s e m w g t k ph pc pq = some X)
    (g1 : curveE l ≠ 0 → v9 = (0, curveE l)) (g2 : curveE l = 0 → ∃ Y : St7, v9 = (Y.2.2.2.2.2.1, 0) ∧ r40 H C Q T a b c d p s e m w g t l 1000 1000 1000 = some Y)
    (f1 : (if curveE l = 0 then pickE ph pc pq else curveE l) ≠ 0 → v7 = (0, 0, 0, 0, 0, 0, 0, if curveE l = 0 then pickE ph pc pq else curveE l))
    (f2 : (if curveE l = 0 then pickE ph pc pq else curveE l) = 0 → ∃ X : St7, v7 = st8 X 0 ∧ r40 H C Q T a b c d p s e m w g t l ph pc pq = some X) :
    j8_3 H C Q T a b c d p s e m w g t l ph pc pq k v5 v7 v9 s3 = some true := by
  have rest : ((r22 l).bind fun v14 =>
     if (((!((v14 != 0) && ((v9.2 != v14) || (v9.1 != 0)))) && (v14 == 0)) && (!(v9.2 != 0))) = true → (r40 H C Q T a b c d p s e m w g t l 1000 1000 1000).isSome = true then
      if (((v14 != 0) && ((v9.2 != v14) || (v9.1 != 0))) || ((v14 == 0) && ((v9.2 != 0) || (v9.1 != (((r40 H C Q T a b c d p s e m w g t l 1000 1000 1000).getD default).2.2.2.2.2.1))))) = true then
       some false
       else if (v14 == 0) = true then
        (r20 ph pc pq).bind fun v15 =>
         j8_4 H C Q T a b c d p s e m w g t l ph pc pq v7 v15
        else j8_4 H C Q T a b c d p s e m w g t l ph pc pq v7 v14
      else none) = some true := by
    rw [p22 l hl, Option.bind_some]
    by_cases hu : curveE l = 0
    · obtain ⟨Y, rfl, hY⟩ := g2 hu
      rw [if_pos hu] at f1 f2
      rw [hu, hY]
      refine (if_pos (fun _ => rfl)).trans ((if_neg (by simp)).trans ((if_pos (by decide)).trans ?_))
      rw [p20, Option.bind_some]
      exact j8_4_ok f1 f2
    · rw [if_neg hu] at f1 f2
      rw [g1 hu]
      refine (if_pos (fun h => ?_)).trans ((if_neg ?_).trans ((if_neg (by simpa using hu)).trans ?_))
      · simp [hu] at h
      · simp [hu]
      · exact j8_4_ok f1 f2
  unfold j8_3
  by_cases h : s3 = 0
  · obtain ⟨X, rfl, hX⟩ := h2 h
    subst h
    rw [hX]
    refine (if_pos (fun _ => rfl)).trans ((if_neg (by simp)).trans ?_)
    exact rest
  · rw [h1 h]
    refine (if_pos (fun h9 => ?_)).trans ((if_neg ?_).trans ?_)
    · simp [h] at h9
    · simp [h]
    · exact rest
theorem runs_core (hf : H.length ≤ 10 ∧ C.length ≤ 10 ∧ Q.length ≤ 10 ∧ T.length ≤ 10) {v : Int × Int} (hv : rulV H C Q T a b c d = some v) (p s e m w g t : Int) {l : List Int} (hl : l.length < 1000000000) (ph pc pq k : Int) :
    j8_1 H C Q T a b c d p s e m w g t l ph pc pq k = some true := by
  unfold j8_1
  rw [p15 a b c d hf, Option.bind_some]
  show (r30 H C Q T a b c d p s e m w g t k ph pc pq).bind (fun v5 => (r24 l).bind fun v6 => (r23 H C Q T a b c d p s e m w g t v6 ph pc pq).bind fun v7 => (r31 H C Q T a b c d p s e m w g t).bind fun v8 => (r37 H C Q T a b c d p s e m w g t v6).bind fun v9 => (r21 H C Q T a b c d).bind fun v10 => _) = _
  rw [p24 l hl]
  by_cases hE : v.2 = 0 ∧ staE p s e m w g t = 0
  · obtain ⟨h0, hs⟩ := hE
    have ok := rul_of hv h0
    have st := st_of hs
    rw [p31 ok hv h0 st, p21 hv, h0]
    have key : ∀ v5 v7 v9, (∀ s3, s3 = (if kelE k = 0 then pickE ph pc pq else kelE k) → (s3 ≠ 0 → v5 = (0, 0, 0, 0, 0, 0, 0, s3)) ∧ (s3 = 0 → ∃ X : St7, v5 = st8 X 0 ∧ r39 H C Q T a b c d p s e m w g t k ph pc pq = some X)) →
        ((curveE l ≠ 0 → v9 = (0, curveE l)) ∧ (curveE l = 0 → ∃ Y : St7, v9 = (Y.2.2.2.2.2.1, 0) ∧ r40 H C Q T a b c d p s e m w g t l 1000 1000 1000 = some Y)) →
        (((if curveE l = 0 then pickE ph pc pq else curveE l) ≠ 0 → v7 = (0, 0, 0, 0, 0, 0, 0, if curveE l = 0 then pickE ph pc pq else curveE l)) ∧ ((if curveE l = 0 then pickE ph pc pq else curveE l) = 0 → ∃ X : St7, v7 = st8 X 0 ∧ r40 H C Q T a b c d p s e m w g t l ph pc pq = some X)) →
        r30 H C Q T a b c d p s e m w g t k ph pc pq = some v5 → r23 H C Q T a b c d p s e m w g t l ph pc pq = some v7 → r37 H C Q T a b c d p s e m w g t l = some v9 →
        ((r30 H C Q T a b c d p s e m w g t k ph pc pq).bind fun v5 => (some l).bind fun v6 => (r23 H C Q T a b c d p s e m w g t v6 ph pc pq).bind fun v7 => (some (hdV a b c d p s e m t, (0 : Int))).bind fun v8 => (r37 H C Q T a b c d p s e m w g t v6).bind fun v9 => (some (0 : Int)).bind fun v10 =>
          if (v10 == 0) = true then
            (r18 p s e m w g t).bind fun v11 => j8_2 H C Q T a b c d p s e m w g t l ph pc pq k v5 v7 v8 v9 v11
          else j8_2 H C Q T a b c d p s e m w g t l ph pc pq k v5 v7 v8 v9 v10) = some true := by
      intro v5 v7 v9 c5 c9 c7 e5 e7 e9
      rw [e5, Option.bind_some, Option.bind_some, e7, Option.bind_some, Option.bind_some, e9, Option.bind_some, Option.bind_some]
      refine (if_pos (by decide)).trans ?_
      rw [p18, Option.bind_some, hs]
      unfold j8_2
      refine (if_neg (by decide)).trans ?_
      rw [p38 ok st]
      refine (if_pos (fun _ => rfl)).trans ((if_neg (by simp)).trans ?_)
      rw [show r32 k = some (kelE k) from p32 k, Option.bind_some]
      by_cases hk : kelE k = 0
      · refine (if_pos (by rw [hk]; decide)).trans ?_
        rw [p20, Option.bind_some]
        have := c5 _ rfl
        rw [if_pos hk] at this
        exact j8_3_ok hl this.1 this.2 c9.1 c9.2 c7.1 c7.2
      · refine (if_neg (by simpa using hk)).trans ?_
        have := c5 _ rfl
        rw [if_neg hk] at this
        exact j8_3_ok hl this.1 this.2 c9.1 c9.2 c7.1 c7.2
    have d5 : ∃ v5, r30 H C Q T a b c d p s e m w g t k ph pc pq = some v5 ∧ ∀ s3, s3 = (if kelE k = 0 then pickE ph pc pq else kelE k) → (s3 ≠ 0 → v5 = (0, 0, 0, 0, 0, 0, 0, s3)) ∧ (s3 = 0 → ∃ X : St7, v5 = st8 X 0 ∧ r39 H C Q T a b c d p s e m w g t k ph pc pq = some X) := by
      have hfv : firstV [v.2, staE p s e m w g t, kelE k, pickE ph pc pq] = (if kelE k = 0 then pickE ph pc pq else kelE k) := by
        simp only [firstV, h0, hs, if_true]
        by_cases hp : pickE ph pc pq = 0 <;> simp [hp]
      by_cases h3 : (if kelE k = 0 then pickE ph pc pq else kelE k) = 0
      · have hk : kelE k = 0 := by
          by_cases hk : kelE k = 0
          · exact hk
          · rw [if_neg hk] at h3; exact h3
        rw [if_pos hk] at h3 ⊢
        have hk2 : 1 ≤ k ∧ k ≤ 3000 := by
          unfold kelE at hk; split at hk
          · rename_i h1; exact inR_iff.1 h1
          · exact absurd hk (by decide)
        obtain ⟨k1, k2, k3⟩ := pick_ok h3
        exact ⟨_, p30 ok hv h0 hk2 k1 k2 k3 st, fun s3 h => ⟨fun h9 => absurd (h.trans h3) h9, fun _ => ⟨_, rfl, p39 ok.toKnOk k1 k2 k3 st⟩⟩⟩
      · exact ⟨_, e30 hf hv hfv h3, fun s3 h => ⟨fun h9 => by rw [h], fun h9 => absurd (h ▸ h9) h3⟩⟩
    have d7 : ∀ ph pc pq : Int, ∃ v7, r23 H C Q T a b c d p s e m w g t l ph pc pq = some v7 ∧ ((if curveE l = 0 then pickE ph pc pq else curveE l) ≠ 0 → v7 = (0, 0, 0, 0, 0, 0, 0, if curveE l = 0 then pickE ph pc pq else curveE l)) ∧ ((if curveE l = 0 then pickE ph pc pq else curveE l) = 0 → ∃ X : St7, v7 = st8 X 0 ∧ r40 H C Q T a b c d p s e m w g t l ph pc pq = some X) := by
      intro ph pc pq
      have hfv : firstV [v.2, staE p s e m w g t, curveE l, pickE ph pc pq] = (if curveE l = 0 then pickE ph pc pq else curveE l) := by
        simp only [firstV, h0, hs, if_true]
        by_cases hp : pickE ph pc pq = 0 <;> simp [hp]
      by_cases h3 : (if curveE l = 0 then pickE ph pc pq else curveE l) = 0
      · have hk : curveE l = 0 := by
          by_cases hk : curveE l = 0
          · exact hk
          · rw [if_neg hk] at h3; exact h3
        have h4 := h3
        rw [if_pos hk] at h4
        obtain ⟨k1, k2, k3⟩ := pick_ok h4
        exact ⟨_, p23 ok hv h0 h4 l hk st, fun h9 => absurd h3 h9, fun _ => ⟨_, rfl, p40 ok.toKnOk k1 k2 k3 l hl st⟩⟩
      · exact ⟨_, e23 hf hv hl hfv h3, fun _ => rfl, fun h9 => absurd h9 h3⟩
    obtain ⟨v5, e5, c5⟩ := d5
    obtain ⟨v7, e7, c7⟩ := d7 ph pc pq
    obtain ⟨u, e9, c9⟩ := d7 1000 1000 1000
    have hp1 : pickE 1000 1000 1000 = 0 := by decide
    rw [hp1] at c9
    have e37 : r37 H C Q T a b c d p s e m w g t l = some (u.2.2.2.2.2.1, u.2.2.2.2.2.2.2) := by unfold r37; rw [e9]; rfl
    refine key v5 v7 _ c5 ⟨fun hu => ?_, fun hu => ?_⟩ c7 e5 e7 e37
    · have := c9.1 (by rw [if_neg hu]; exact hu)
      rw [this, if_neg hu]
    · obtain ⟨Y, rfl, hY⟩ := c9.2 (by rw [if_pos hu])
      exact ⟨Y, rfl, hY⟩
  · obtain ⟨x, hx, h0⟩ : ∃ x, (if v.2 = 0 then staE p s e m w g t else v.2) = x ∧ x ≠ 0 := by
      refine ⟨_, rfl, ?_⟩
      by_cases h0 : v.2 = 0
      · rw [if_pos h0]; exact fun h => hE ⟨h0, h⟩
      · rw [if_neg h0]; exact h0
    have hfv : ∀ r, firstV (v.2 :: staE p s e m w g t :: r) = x := fun r => by
      simp only [firstV]
      by_cases h1 : v.2 = 0
      · rw [if_pos h1] at hx ⊢; rw [hx, if_neg h0]
      · rw [if_neg h1] at hx ⊢; exact hx
    have e37 : r37 H C Q T a b c d p s e m w g t l = some (0, x) := by unfold r37; rw [e23 hf hv hl (hfv _) h0]; rfl
    rw [e30 hf hv (hfv _) h0, Option.bind_some, Option.bind_some, e23 hf hv hl (hfv _) h0, Option.bind_some, e31 hf hv (hfv _) h0, Option.bind_some, e37, Option.bind_some, p21 hv, Option.bind_some]
    have key : j8_2 H C Q T a b c d p s e m w g t l ph pc pq k (0, 0, 0, 0, 0, 0, 0, x) (0, 0, 0, 0, 0, 0, 0, x) (0, x) (0, x) x = some true := by
      unfold j8_2
      refine (if_pos (by simpa using h0)).trans ?_
      simp
    by_cases h1 : v.2 = 0
    · rw [if_pos h1] at hx
      refine (if_pos (by rw [h1]; decide)).trans ?_
      rw [p18, Option.bind_some, hx]
      exact key
    · rw [if_neg h1] at hx
      refine (if_neg (by simpa using h1)).trans ?_
      rw [hx]
      exact key
end
theorem runs (H : List (Int × Int × Int × Int)) (C : List (Int × Int × Int × Int × Int)) (Q : List (Int × Int × Int)) (T : List (Int × Int)) (a b c d p s e m w g t : Int) (l : List Int) (ph pc pq : Int) :
    r8 H C Q T a b c d p s e m w g t l ph pc pq = some true := by
  obtain ⟨v, hv⟩ := rulV_some H C Q T a b c d
  unfold r8
  rw [awakeS, Option.bind_some]
  refine (if_neg (by decide)).trans ?_
  rw [p13, Option.bind_some]
  by_cases hf : H.length ≤ 10 ∧ C.length ≤ 10 ∧ Q.length ≤ 10 ∧ T.length ≤ 10
  · have hf2 : (decide (H.length ≤ 10 ∧ C.length ≤ 10 ∧ Q.length ≤ 10 ∧ T.length ≤ 10)) = true := decide_eq_true hf
    rw [hf2]
    have e36 : r36 (l.length : Int) = some (decide (l.length ≤ 30 ∨ 200 < l.length ∧ l.length ≤ 202)) := by
      unfold r36
      congr 1
      rw [Bool.eq_iff_iff]
      simp only [Bool.or_eq_true, Bool.and_eq_true, decide_eq_true_eq]
      omega
    rw [e36]
    refine (if_pos (fun _ => rfl)).trans ?_
    by_cases hs : l.length ≤ 30 ∨ 200 < l.length ∧ l.length ≤ 202
    · refine (if_neg (by simp [hs])).trans ?_
      have hl : l.length < 1000000000 := by omega
      by_cases hp : 0 < l.length
      · refine (if_pos (by simpa using hp)).trans ((if_pos ⟨by omega, by omega⟩).trans ?_)
        exact runs_core hf hv p s e m w g t hl ph pc pq _
      · refine (if_neg (by simpa using hp)).trans ?_
        exact runs_core hf hv p s e m w g t hl ph pc pq _
    · exact if_pos (by simp [hs])
  · have hf2 : (decide (H.length ≤ 10 ∧ C.length ≤ 10 ∧ Q.length ≤ 10 ∧ T.length ≤ 10)) = false := decide_eq_false hf
    rw [hf2]
    refine (if_pos (fun h => by cases h)).trans (if_pos rfl)
end Go.Proofs.YtfkmbdfajpdjjaaDoor

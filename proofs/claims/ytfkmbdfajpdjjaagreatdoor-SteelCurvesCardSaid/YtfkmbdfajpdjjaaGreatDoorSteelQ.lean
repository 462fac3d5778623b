/- Steel: what valid rules and states give; the code's Stepped, HardnessOf (plain). -/
import Derived.Test.YtfkmbdfajpdjjaaGreatDoorF02
import Derived.Test.YtfkmbdfajpdjjaaGreatDoorF08
import Derived.Test.YtfkmbdfajpdjjaaGreatDoorSteelP
set_option linter.unusedVariables false
set_option linter.unusedSimpArgs false
namespace Go.Proofs.YtfkmbdfajpdjjaaGreatDoor
open Go.Abs

theorem errs_ne {dir : Int} {L : List Kn} {v : Int × Int} (h : errs dir L = some v) : v.2 ≠ 0 := by
  have key : ∀ (k i : Nat), scanN (fun i => if errE dir L i = 0 then none else some ((i : Int), errE dir L i)) i k = some v → v.2 ≠ 0 := by
    intro k
    induction k with
    | zero => intro i h; cases h
    | succ k ih =>
      intro i h
      simp only [scanN] at h
      by_cases he : errE dir L i = 0
      · rw [if_pos he] at h; exact ih (i + 1) h
      · rw [if_neg he] at h
        obtain rfl := Option.some.inj h
        exact he
  exact key L.length 0 h
/-- valid rules -/
structure RulOk (H : List (Int × Int × Int × Int)) (C : List (Int × Int × Int × Int × Int)) (Q : List (Int × Int × Int)) (T : List (Int × Int)) (a b c d : Int) : Prop extends KnOk H C Q T where
  eH : ∀ i, i < H.length → errE 1 (H.map kH) i = 0
  eC : ∀ i, i < C.length → errE 0 (C.map kC) i = 0
  eQ : ∀ i, i < Q.length → errE (-1) (Q.map kQ) i = 0
  eT : ∀ i, i < T.length → errE 0 (T.map kT) i = 0
  cl : H = [] ∨ (clashB (C.map kC) (H.getD 0 default).1 = false ∧ clashB (Q.map kQ) (H.getD 0 default).1 = false ∧ clashB (T.map kT) (H.getD 0 default).1 = false)
  ha : 0 ≤ a
  hab : a ≤ b
  hbc : b ≤ c
  hcd : c ≤ d
  hd : d ≤ 2000
theorem map_ok {α : Type} [Inhabited α] {l : List α} {g : α → Kn} {dir : Int} (h : ∀ i, i < l.length → errE dir (l.map g) i = 0) : ∀ x ∈ l, kn1 (g x) = 0 := fun x hx => by
  obtain ⟨i, hi, rfl⟩ := List.mem_iff_getElem.1 hx
  have := errE_kn (h i hi)
  rw [map_getD l g hi] at this
  have e : l.getD i default = l[i] := by rw [List.getD_eq_getElem?_getD, List.getElem?_eq_getElem hi]; rfl
  rw [e] at this
  exact this
section
variable {H : List (Int × Int × Int × Int)} {C : List (Int × Int × Int × Int × Int)} {Q : List (Int × Int × Int)} {T : List (Int × Int)} {a b c d : Int}
theorem rul_of {v : Int × Int} (h : rulV H C Q T a b c d = some v) (h0 : v.2 = 0) : RulOk H C Q T a b c d := by
  unfold rulV at h
  split at h
  · obtain rfl := Option.some.inj h; exact absurd h0 (by decide)
  · rename_i hl
    cases e1 : errs 1 (H.map kH) with
    | some u => rw [e1] at h; obtain rfl := Option.some.inj h; exact absurd h0 (errs_ne e1)
    | none => cases e2 : errs 0 (C.map kC) with
      | some u => rw [e1, e2] at h; obtain rfl := Option.some.inj h; exact absurd h0 (errs_ne e2)
      | none => cases e3 : errs (-1) (Q.map kQ) with
        | some u => rw [e1, e2, e3] at h; obtain rfl := Option.some.inj h; exact absurd h0 (errs_ne e3)
        | none => cases e4 : errs 0 (T.map kT) with
          | some u => rw [e1, e2, e3, e4] at h; obtain rfl := Option.some.inj h; exact absurd h0 (errs_ne e4)
          | none =>
            rw [e1, e2, e3, e4] at h
            obtain rfl := Option.some.inj h
            have z1 := fun i hi => errs_none e1 i (by rw [List.length_map]; exact hi)
            have z2 := fun i hi => errs_none e2 i (by rw [List.length_map]; exact hi)
            have z3 := fun i hi => errs_none e3 i (by rw [List.length_map]; exact hi)
            have z4 := fun i hi => errs_none e4 i (by rw [List.length_map]; exact hi)
            have m1 := map_ok z1
            have m2 := map_ok z2
            have m3 := map_ok z3
            have m4 := map_ok z4
            unfold finE at h0
            split at h0
            · exact absurd h0 (by decide)
            · rename_i hcl
              have hh : hrdE a b c d = 0 := h0
              unfold hrdE at hh
              split at hh
              · rename_i hr
                split at hh
                · rename_i ho
                  simp only [Bool.and_eq_true, decide_eq_true_eq] at hr ho
                  have r1 := inR_iff.1 hr.1.1.1
                  have r4 := inR_iff.1 hr.2
                  refine ⟨⟨by omega, by omega, by omega, by omega, fun x hx => ?_, fun x hx => ?_, fun x hx => ?_, fun x hx => ?_⟩, z1, z2, z3, z4, ?_, r1.1, ho.1.1, ho.1.2, ho.2, r4.2⟩
                  · obtain ⟨_, s, o, r⟩ := kn1_zero (m1 x hx)
                    have s1 := shOk_iff.1 (s (x.2.1, x.2.2.1) (by simp [kH]))
                    have r1 : x.2.1 ≤ x.2.2.1 := by have := r (x.2.1, x.2.2.1) (by simp [kH]); simpa [orOk] using this
                    exact ⟨⟨s1.1.1, r1, s1.2.2⟩, o⟩
                  · obtain ⟨_, s, o, r⟩ := kn1_zero (m2 x hx)
                    have s1 := shOk_iff.1 (s (x.2.1, x.2.2.1) (by simp [kC]))
                    have r1 : x.2.1 ≤ x.2.2.1 := by have := r (x.2.1, x.2.2.1) (by simp [kC]); simpa [orOk] using this
                    have s2 := shOk_iff.1 (s (x.2.2.2.1, x.2.2.2.2) (by simp [kC]))
                    have r2 : x.2.2.2.1 ≤ x.2.2.2.2 := by have := r (x.2.2.2.1, x.2.2.2.2) (by simp [kC]); simpa [orOk] using this
                    exact ⟨⟨s1.1.1, r1, s1.2.2⟩, s2.1.1, r2, s2.2.2⟩
                  · obtain ⟨_, s, o, r⟩ := kn1_zero (m3 x hx)
                    have s1 := shOk_iff.1 (s (x.2.1, x.2.2) (by simp [kQ]))
                    have r1 : x.2.1 ≤ x.2.2 := by have := r (x.2.1, x.2.2) (by simp [kQ]); simpa [orOk] using this
                    exact ⟨s1.1.1, r1, s1.2.2⟩
                  · obtain ⟨_, s, o, r⟩ := kn1_zero (m4 x hx)
                    exact o
                  · by_cases hH : H = []
                    · exact .inl hH
                    · have hp : 0 < H.length := List.length_pos_iff.2 hH
                      have hm := map_getD H kH hp
                      rw [hm, List.length_map] at hcl
                      have hk : (kH (H.getD 0 default)).1 = (H.getD 0 default).1 := rfl
                      rw [hk] at hcl
                      simp only [hp, decide_true, Bool.true_and, Bool.or_eq_true, not_or, Bool.not_eq_true] at hcl
                      exact .inr ⟨hcl.1.1, hcl.1.2, hcl.2⟩
                · exact absurd hh (by decide)
              · exact absurd hh (by decide)
theorem p73 (h : H.length ≤ 10 ∧ C.length ≤ 10 ∧ Q.length ≤ 10 ∧ T.length ≤ 10) {v : Int × Int} (hv : rulV H C Q T a b c d = some v) : r46 H C Q T a b c d = some v.2 := by
  unfold r46
  rw [p14 H C Q T a b c d h.1 h.2.1 h.2.2.1 h.2.2.2, hv]; rfl
theorem p21 {v : Int × Int} (hv : rulV H C Q T a b c d = some v) : r11 H C Q T a b c d = some v.2 := by
  unfold r11
  rw [p16, hv]; rfl
theorem st_of {p s e m w g t : Int} (h : staE p s e m w g t = 0) : StOk p s e m w g t := by
  unfold staE at h
  split at h
  · rename_i h1
    split at h
    · rename_i h2
      simp only [Bool.and_eq_true] at h1
      exact ⟨inR_iff.1 h1.1.1.1.1.1.1, inR_iff.1 h1.1.1.1.1.1.2, inR_iff.1 h1.1.1.1.1.2, inR_iff.1 h1.1.1.1.2, inR_iff.1 h1.1.1.2, inR_iff.1 h1.1.2, inR_iff.1 h1.2, h2⟩
    · exact absurd h (by decide)
  · exact absurd h (by decide)
theorem staE_of {p s e m w g t : Int} (h : StOk p s e m w g t) : staE p s e m w g t = 0 := by
  unfold staE shB
  rw [inR_iff.2 h.hp, inR_iff.2 h.ha, inR_iff.2 h.hb, inR_iff.2 h.hm, inR_iff.2 h.hw, inR_iff.2 h.hg, inR_iff.2 h.ht, if_pos h.sum]; rfl
def StO (s : St7) : Prop := StOk s.1 s.2.1 s.2.2.1 s.2.2.2.1 s.2.2.2.2.1 s.2.2.2.2.2.1 s.2.2.2.2.2.2
theorem tail_ok {q : Option (Int × Int × Int)} {tk : Option (Int × Int)} {pq p A B m W g t : Int} (hq : ∀ x, q = some x → 0 ≤ x.2.1 ∧ x.2.1 ≤ x.2.2 ∧ x.2.2 ≤ 1000000) (ht : ∀ y, tk = some y → 0 ≤ y.2 ∧ y.2 ≤ 1000000)
    (hp : 0 ≤ pq ∧ pq ≤ 1000) (st : StOk p A B m W g t) :
    StO (tailV q tk pq p A B m W g t) ∧ (tailV q tk pq p A B m W g t).1 = p ∧ m ≤ (tailV q tk pq p A B m W g t).2.2.2.1 ∧ (tailV q tk pq p A B m W g t).2.2.1 = B ∧ (tailV q tk pq p A B m W g t).2.2.2.2.2.1 = g ∧ t ≤ (tailV q tk pq p A B m W g t).2.2.2.2.2.2 := by
  have hm : m ≤ marO q pq A m ∧ marO q pq A m ≤ A + m := by
    cases q with
    | none => have := st.ha; simp only [marO]; omega
    | some x =>
      have hx := hq x rfl
      obtain ⟨b1, b2, _, _⟩ := pk_bounds hx.1 hx.2.1 hx.2.2 hp.1 hp.2
      have a1 := st.ha; have a2 := st.hm; have a3 := st.hp; have a4 := st.hb; have a5 := st.sum
      obtain ⟨c1, c2, _, _⟩ := mar_bounds a1.1 a2.1 (show A + m ≤ 2000000 by omega) (show 0 ≤ pkV x.2.1 x.2.2 pq by omega) (by omega)
      exact ⟨c1, c2⟩
  have htm : t ≤ temO tk t ∧ temO tk t ≤ 1000000 := by
    have h1 := st.ht
    cases tk with
    | none => simp only [temO]; omega
    | some y =>
      have hy := ht y rfl
      simp only [temO, capV]; split <;> omega
  unfold tailV
  have a1 := st.ha; have a2 := st.hm; have a3 := st.hp; have a4 := st.hb; have a5 := st.sum; have a6 := st.ht
  generalize marO q pq A m = M at hm
  generalize temO tk t = Z at htm
  exact ⟨⟨st.hp, (⟨by omega, by omega⟩ : 0 ≤ A - (M - m) ∧ A - (M - m) ≤ 1000000), st.hb, (⟨by omega, by omega⟩ : 0 ≤ M ∧ M ≤ 1000000), st.hw, st.hg, (⟨by omega, by omega⟩ : 0 ≤ Z ∧ Z ≤ 1000000), (by omega : p + (A - (M - m)) + B + M = 1000000)⟩, rfl, hm.1, rfl, rfl, htm.1⟩
theorem step_ok (ok : KnOk H C Q T) {k ph pc pq p s e m w g t : Int} (hph : 0 ≤ ph ∧ ph ≤ 1000) (hpc : 0 ≤ pc ∧ pc ≤ 1000) (hpq : 0 ≤ pq ∧ pq ≤ 1000) (st : StOk p s e m w g t) :
    StO (stepV H C Q T k ph pc pq p s e m w g t) ∧
    (heatAt H k ≠ none → s ≤ (stepV H C Q T k ph pc pq p s e m w g t).2.1 ∧ (stepV H C Q T k ph pc pq p s e m w g t).2.2.1 = 0 ∧ (stepV H C Q T k ph pc pq p s e m w g t).2.2.2.1 = 0 ∧ g ≤ (stepV H C Q T k ph pc pq p s e m w g t).2.2.2.2.2.1) ∧
    (heatAt H k = none → (stepV H C Q T k ph pc pq p s e m w g t).1 = p ∧ m ≤ (stepV H C Q T k ph pc pq p s e m w g t).2.2.2.1 ∧ e ≤ (stepV H C Q T k ph pc pq p s e m w g t).2.2.1 ∧ (stepV H C Q T k ph pc pq p s e m w g t).2.2.2.2.2.1 = g ∧ t ≤ (stepV H C Q T k ph pc pq p s e m w g t).2.2.2.2.2.2) := by
  obtain ⟨sp, sa, sb, sm, sw, sg, stt, ssum⟩ := st
  unfold stepV
  cases hh : heatAt H k with
  | some x =>
    have hx := ok.kh x (lastP_mem hh).1
    obtain ⟨b1, b2, _, _⟩ := pk_bounds hx.1.1 hx.1.2.1 hx.1.2.2 hph.1 hph.2
    have hf : 0 ≤ capV (pkV x.2.1 x.2.2.1 ph) (p + (e + m)) ∧ capV (pkV x.2.1 x.2.2.1 ph) (p + (e + m)) ≤ p + (e + m) := by unfold capV; split <;> omega
    simp only [hotV]
    generalize capV (pkV x.2.1 x.2.2.1 ph) (p + (e + m)) = F at hf
    have hg : g ≤ (if s + F > 0 then capV (g + x.2.2.2) 100000 else g) ∧ (if s + F > 0 then capV (g + x.2.2.2) 100000 else g) ≤ 100000 := by
      split
      · unfold capV; split <;> omega
      · omega
    generalize (if s + F > 0 then capV (g + x.2.2.2) 100000 else g) = G at hg
    refine ⟨⟨(⟨by omega, by omega⟩ : 0 ≤ p + (e + m) - F ∧ p + (e + m) - F ≤ 1000000), (⟨by omega, by omega⟩ : 0 ≤ s + F ∧ s + F ≤ 1000000), (⟨by decide, by decide⟩ : (0 : Int) ≤ 0 ∧ (0 : Int) ≤ 1000000), (⟨by decide, by decide⟩ : (0 : Int) ≤ 0 ∧ (0 : Int) ≤ 1000000), (⟨by decide, by decide⟩ : (0 : Int) ≤ 0 ∧ (0 : Int) ≤ 1000000), (⟨by omega, by omega⟩ : 0 ≤ G ∧ G ≤ 100000), (⟨by decide, by decide⟩ : (0 : Int) ≤ 0 ∧ (0 : Int) ≤ 1000000), (by omega : p + (e + m) - F + (s + F) + 0 + 0 = 1000000)⟩, fun _ => ⟨(by omega : s ≤ s + F), trivial, trivial, hg.1⟩, fun h => by cases h⟩
  | none =>
    have hq : ∀ x, coldAt Q k = some x → 0 ≤ x.2.1 ∧ x.2.1 ≤ x.2.2 ∧ x.2.2 ≤ 1000000 := fun x hx => ok.kq x (List.mem_of_find?_eq_some hx)
    have ht : ∀ y, tempAt T k = some y → 0 ≤ y.2 ∧ y.2 ≤ 1000000 := fun y hy => ok.kt y (lastP_mem hy).1
    have done : ∀ A B W : Int, StOk p A B m W g t → e ≤ B → StO (tailV (coldAt Q k) (tempAt T k) pq p A B m W g t) ∧ (none ≠ (none : Option (Int × Int × Int × Int)) → s ≤ (tailV (coldAt Q k) (tempAt T k) pq p A B m W g t).2.1 ∧ (tailV (coldAt Q k) (tempAt T k) pq p A B m W g t).2.2.1 = 0 ∧ (tailV (coldAt Q k) (tempAt T k) pq p A B m W g t).2.2.2.1 = 0 ∧ g ≤ (tailV (coldAt Q k) (tempAt T k) pq p A B m W g t).2.2.2.2.2.1) ∧
        ((none : Option (Int × Int × Int × Int)) = none → (tailV (coldAt Q k) (tempAt T k) pq p A B m W g t).1 = p ∧ m ≤ (tailV (coldAt Q k) (tempAt T k) pq p A B m W g t).2.2.2.1 ∧ e ≤ (tailV (coldAt Q k) (tempAt T k) pq p A B m W g t).2.2.1 ∧ (tailV (coldAt Q k) (tempAt T k) pq p A B m W g t).2.2.2.2.2.1 = g ∧ t ≤ (tailV (coldAt Q k) (tempAt T k) pq p A B m W g t).2.2.2.2.2.2) := fun A B W h hB => by
      obtain ⟨g1, g2, g3, g4, g5, g6⟩ := tail_ok hq ht hpq h
      exact ⟨g1, fun h => absurd rfl h, fun _ => ⟨g2, g3, by rw [g4]; exact hB, g5, g6⟩⟩
    cases hc : coolAt C k with
    | none => exact done s e w ⟨sp, sa, sb, sm, sw, sg, stt, ssum⟩ (Int.le_refl _)
    | some x =>
      have hx := ok.kc x (List.mem_of_find?_eq_some hc)
      obtain ⟨b1, b2, _, _⟩ := pk_bounds hx.1.1 hx.1.2.1 hx.1.2.2 hpc.1 hpc.2
      obtain ⟨b3, b4, _, _⟩ := pk_bounds hx.2.1 hx.2.2.1 hx.2.2.2 hpc.1 hpc.2
      have hf : 0 ≤ capV (pkV x.2.2.2.1 x.2.2.2.2 pc) s ∧ capV (pkV x.2.2.2.1 x.2.2.2.2 pc) s ≤ s := by unfold capV; split <;> omega
      have hw : 0 ≤ capV (w + pkV x.2.1 x.2.2.1 pc) 1000000 ∧ capV (w + pkV x.2.1 x.2.2.1 pc) 1000000 ≤ 1000000 := by unfold capV; split <;> omega
      show StO (coldV (some x) (coldAt Q k) (tempAt T k) pc pq p s e m w g t) ∧ _ ∧ ((none : Option (Int × Int × Int × Int)) = none → (coldV (some x) (coldAt Q k) (tempAt T k) pc pq p s e m w g t).1 = p ∧ _)
      have ec : coldV (some x) (coldAt Q k) (tempAt T k) pc pq p s e m w g t = if capV (w + pkV x.2.1 x.2.2.1 pc) 1000000 = 1000000 then
        tailV (coldAt Q k) (tempAt T k) pq p (s - capV (pkV x.2.2.2.1 x.2.2.2.2 pc) s) (e + capV (pkV x.2.2.2.1 x.2.2.2.2 pc) s) m (capV (w + pkV x.2.1 x.2.2.1 pc) 1000000) g t
        else tailV (coldAt Q k) (tempAt T k) pq p s e m (capV (w + pkV x.2.1 x.2.2.1 pc) 1000000) g t := rfl
      rw [ec]
      by_cases hcap : capV (w + pkV x.2.1 x.2.2.1 pc) 1000000 = 1000000
      · rw [if_pos hcap]
        exact done (s - capV (pkV x.2.2.2.1 x.2.2.2.2 pc) s) (e + capV (pkV x.2.2.2.1 x.2.2.2.2 pc) s) _ ⟨sp, ⟨by omega, by omega⟩, ⟨by omega, by omega⟩, sm, hw, sg, stt, by omega⟩ (by omega)
      · rw [if_neg hcap]
        exact done s e _ ⟨sp, sa, sb, sm, hw, sg, stt, ssum⟩ (Int.le_refl _)
end
end Go.Proofs.YtfkmbdfajpdjjaaGreatDoor

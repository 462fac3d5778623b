/- HeatShortest as a plain law. -/
import Derived.Test.YtcbiiijnaeibhaaHeatO
import Derived.Test.YtcbiiijnaeibhaaF17
set_option linter.unusedVariables false
set_option linter.unusedSimpArgs false
namespace Go.Proofs.Ytcbiiijnaeibhaa
open Go.Abs

/-- what the minimum time can be -/
theorem short_rng {b : Int} {T law : List (Int × Int)} {p : List Int} {k d most : Int} : ∀ (n : Nat) (l : List Int) (t : Int), 0 ≤ t → t ≤ most → most - t < n →
    (∃ m, shortS b T law p k d most n l t = (m, 0) ∧ t ≤ m ∧ m ≤ most) ∨ shortS b T law p k d most n l t = (0, 12) ∨ shortS b T law p k d most n l t = (0, 22)
  | 0, l, t, _, _, _ => by omega
  | n + 1, l, t, h0, h1, h2 => by
    unfold shortS
    split
    · exact Or.inl ⟨t, rfl, by omega, h1⟩
    · split
      · exact Or.inr (Or.inl rfl)
      · split
        · rcases short_rng (b := b) (T := T) (law := law) (p := p) (k := k) (d := d) (most := most) n (outS b T law l p) (t + 1) (by omega) (by omega) (by omega) with ⟨m, e, h3, h4⟩ | h | h
          · exact Or.inl ⟨m, e, by omega, h4⟩
          · exact Or.inr (Or.inl h)
          · exact Or.inr (Or.inr h)
        · exact Or.inr (Or.inr rfl)
/-- more power needs no more ticks -/
theorem short_mono {a b : Int} {T : List (Int × Int)} {L : List (List (Int × Int))} (ok : SetOk a b T L) {law : Int} (hlaw : 0 ≤ law ∧ law < L.length) {p w : List Int} (hp : leL p w) {k d most m : Int} :
    ∀ (n : Nat) (l u : List Int) (t : Int), leL l u → 0 ≤ t → t ≤ most → most - t < n → shortS b T (L.getD law.toNat default) p k d most n l t = (m, 0) →
      (∃ q, shortS b T (L.getD law.toNat default) w k d most n u t = (q, 0) ∧ q ≤ m) ∨ (shortS b T (L.getD law.toNat default) w k d most n u t).2 = 22
  | 0, l, u, t, _, _, _, _, _ => by omega
  | n + 1, l, u, t, h, h0, h1, h2, h3 => by
    have hdm := dep_mono ok.asc (k := k) h
    have htm : t ≤ m := by
      rcases short_rng (b := b) (T := T) (law := L.getD law.toNat default) (p := p) (k := k) (d := d) (most := most) (n + 1) l t h0 h1 h2 with ⟨q, e, e1, e2⟩ | e | e
      · rw [h3] at e; cases e; exact e1
      · rw [h3] at e; cases e
      · rw [h3] at e; cases e
    unfold shortS at h3 ⊢
    by_cases c1 : d ≤ depS T k l
    · rw [if_pos (show d ≤ depS T k u by omega)]
      exact Or.inl ⟨t, rfl, htm⟩
    · rw [if_neg c1] at h3
      by_cases c2 : t = most
      · rw [if_pos c2] at h3; cases h3
      · rw [if_neg c2] at h3
        by_cases c3 : (outS b T (L.getD law.toNat default) l p).all (inT T) = true
        · rw [if_pos c3] at h3
          by_cases c4 : d ≤ depS T k u
          · rw [if_pos c4]; exact Or.inl ⟨t, rfl, htm⟩
          · rw [if_neg c4, if_neg c2]
            by_cases c5 : (outS b T (L.getD law.toNat default) u w).all (inT T) = true
            · rw [if_pos c5]
              exact short_mono ok hlaw hp n _ _ (t + 1) (outS_leL ok hlaw hlaw (Int.le_refl _) h hp) (by omega) (by omega) (by omega) h3
            · rw [if_neg c5]; exact Or.inr rfl
        · rw [if_neg c3] at h3; cases h3
theorem shortest (a b : Int) (T : List (Int × Int)) (L : List (List (Int × Int))) (s p : List Int) (law k d most : Int) : r10 a b T L s p law k d most = some true := by
  unfold r10
  rw [awake, Option.bind_some, if_neg (by simp), p15, Option.bind_some, p16, gS, Option.getD_some, p16, gS, Option.getD_some]
  by_cases hf : fewV T L = true
  · obtain ⟨h1, h2, h3⟩ := few_of hf
    by_cases hs : s.length ≤ 14
    · by_cases hp : p.length ≤ 14
      · rw [p21 a b T L s (by omega) (by omega) h3 (by omega), gS, Option.getD_some, p22 a b T L p law k d most (by omega) (by omega), gS, Option.getD_some]
        split
        · rfl
        · rename_i hc
          simp only [Bool.or_eq_true, not_or, Bool.not_eq_true, Bool.not_eq_false', bne_eq_false_iff_eq, decide_eq_false_iff_not] at hc
          obtain ⟨⟨⟨_, hst⟩, htk⟩, hmost⟩ := hc
          have H := allOk_of hst
          obtain ⟨hd, hk, hdep, hm⟩ := task_ok htk
          have D := drive_ok hd
          have hlen := H.len
          have hcl := H.ok.cells
          have hp17 : ∀ w : List Int, w.length < 1000000 → taskErrV a L w law k d most = 0 → r17 a b T L s w law k d most = some (shortS b T (L.getD law.toNat default) w k d most 1000 s 0) := fun w hw ht => by
            rw [p17 a b T L s w law k d most (by omega) (by omega) h3 (by omega) hw]
            unfold shortV2
            rw [if_pos hst, if_pos ht]
          rw [p18 a b T L (by omega) (by omega) h3, Option.bind_some, p19 s (by omega), Option.bind_some]
          simp only
          have e20 : r20 p law k d most = some (p, law, k, d, most) := by
            rw [r20, r65, p19 p (by omega), Option.bind_some, Option.bind_some]
          rw [e20, Option.bind_some]
          simp only
          rw [hp17 p (by omega) htk, Option.bind_some]
          generalize hv : shortS b T (L.getD law.toNat default) p k d most 1000 s 0 = v
          rw [p59, gS, Option.getD_some]
          have hrng := short_rng (b := b) (T := T) (law := L.getD law.toNat default) (p := p) (k := k) (d := d) (most := most) 1000 s 0 (by omega) hm.1 (by omega)
          rw [hv] at hrng
          rw [if_neg (by
            rcases hrng with ⟨q, e, e1, e2⟩ | e | e
            · have : inR q 0 most = true := inR_iff.2 ⟨e1, e2⟩
              rw [e]; simp [this]
            · have : inR 0 0 most = true := inR_iff.2 ⟨by omega, hm.1⟩
              rw [e]; simp [this]
            · have : inR 0 0 most = true := inR_iff.2 ⟨by omega, hm.1⟩
              rw [e]; simp [this])]
          refine iter_inv (b10_1 a b T L s p law k d most v) (fun i st => st.1 = (i : Int) ∧ AllOk a b T L st.2 ∧ (i : Int) ≤ most ∧ shortS b T (L.getD law.toNat default) p k d most (1000 - i) st.2 i = v) (fun r => r = some true) 300 ?_ ?_ (0, s) ⟨rfl, H, hm.1, hv⟩ 1000000000 (by omega)
          · rintro i ⟨i', l⟩ hi ⟨rfl, Hl, him, hsh⟩
            simp only at Hl hsh
            have hll := Hl.len
            obtain ⟨n, hn⟩ : ∃ n, 1000 - i = n + 1 := ⟨999 - i, by omega⟩
            rw [hn] at hsh
            unfold shortS at hsh
            unfold b10_1
            simp only
            rw [if_pos (decide_eq_true him), p18 a b T L (by omega) (by omega) h3]
            simp only [bindC]
            rw [p19 l (by omega)]
            simp only
            rw [p77 a b T L l k (by omega) (by omega) h3 (by omega), Hl.stErr]
            have hkr : inR k 200 3000 = true := inR_iff.2 hk
            have e0 : firstE 0 (codeIf (inR k 200 3000) 2) = 0 := by rw [hkr]; rfl
            rw [if_pos e0]
            simp only
            rw [if_neg (by simp)]
            by_cases c1 : d ≤ depS T k l
            · rw [if_pos (decide_eq_true c1)]
              rw [if_pos c1] at hsh
              right
              subst hsh
              rw [if_neg (by simp), e20, Option.bind_some]
              refine ⟨_, rfl, ?_⟩
              refine iter_inv (b10_2 a b T L s ((i : Int), 0) (p, law, k, d, most)) (fun j st => st.1 = (j : Int) ∧ st.2.length = p.length ∧ ∀ q, q < p.length → p.getD q default ≤ st.2.getD q default ∧ 0 ≤ st.2.getD q default ∧ st.2.getD q default ≤ 10000) (fun r => r = some true) p.length ?_ ?_ (0, p) ⟨rfl, rfl, fun q hq => ⟨Int.le_refl _, D.2.1 _ (getD_mem hq)⟩⟩ 1000000000 (by omega)
              · rintro j ⟨j', w⟩ hj ⟨rfl, hwl, hw⟩
                simp only at hwl hw
                left
                unfold b10_2
                simp only [Int.toNat_natCast]
                have hwj := hw j hj
                rw [if_pos (ltN (show j < w.length by omega)), if_pos (rgN (show j < w.length by omega)), if_pos (rgN (show j < w.length by omega)), wS j (by omega), IntWalk.i64_in (w.getD j default + 1) ⟨by omega, by omega⟩]
                refine ⟨_, rfl, by simp, by simp [hwl], fun q hq => ?_⟩
                simp only
                rw [getD_set _ _ _ _ (by omega)]
                have := hw q hq
                split
                · rename_i hjq; subst hjq; split <;> omega
                · exact this
              · rintro ⟨j', w⟩ ⟨hj, hwl, hw⟩
                simp only at hj hwl hw
                have hle : leL p w := leL_of p w (by omega) (fun q hq => (hw q hq).1)
                have hdw : driveErrV a L w law = 0 := drive_zero (by omega) (fun x hx => by
                  obtain ⟨q, hq, rfl⟩ := mem_getD hx
                  exact (hw q (by omega)).2) D.2.2
                have htw : taskErrV a L w law k d most = 0 := by
                  unfold taskErrV at htk ⊢
                  rw [hd] at htk; rw [hdw]; exact htk
                unfold b10_2
                simp only
                rw [if_neg (by rw [hj, decide_eq_true_eq]; omega), p18 a b T L (by omega) (by omega) h3, Option.bind_some, p19 s (by omega), Option.bind_some]
                simp only
                rw [hp17 w (by omega) htw, Option.bind_some]
                refine ⟨_, rfl, ?_⟩
                rcases short_mono H.ok D.2.2 hle 1000 s s 0 (leL_of s s rfl fun _ _ => Int.le_refl _) (by omega) hm.1 (by omega) hv with ⟨q, e, e1⟩ | e
                · rw [e]; simp [e1]
                · rw [e]; simp
            · rw [if_neg (by rw [decide_eq_true_eq]; exact c1)]
              rw [if_neg c1] at hsh
              by_cases c2 : (i : Int) = most
              · rw [if_pos c2] at hsh
                right
                rw [if_pos (by simpa using c2)]
                exact ⟨_, rfl, by rw [← hsh]; rfl⟩
              · rw [if_neg c2] at hsh
                rw [if_neg (by simpa using c2), r65, p19 p (by omega), Option.bind_some]
                simp only
                rw [p64 a b T L l p law (by omega) (by omega) h3 (by omega) (by omega), Hl.stepped hd]
                simp only
                unfold stepV
                by_cases c3 : (outS b T (L.getD law.toNat default) l p).all (inT T) = true
                · rw [if_pos c3] at hsh ⊢
                  have Hn := Hl.next c3
                  have hnl := Hn.len
                  left
                  simp only
                  rw [if_neg (by decide), p16, gS, Option.getD_some, p21 a b T L _ (by omega) (by omega) h3 (by omega), gS, Option.getD_some, Hn.stErr]
                  have e1 : decide (((outS b T (L.getD law.toNat default) l p).length : Int) ≤ 14) = true := decide_eq_true (by omega)
                  rw [e1, if_neg (by decide), p19 _ (by omega)]
                  simp only
                  rw [wS i (by omega)]
                  refine ⟨_, rfl, by simp, Hn, by omega, ?_⟩
                  have : 1000 - (i + 1) = n := by omega
                  rw [this]; simpa using hsh
                · rw [if_neg c3] at hsh ⊢
                  right
                  simp only
                  rw [if_pos (by decide)]
                  exact ⟨_, rfl, by rw [← hsh]; rfl⟩
          · rintro ⟨i', l⟩ ⟨_, _, him, _⟩
            omega
      · have e : decide ((p.length : Int) ≤ 14) = false := by rw [decide_eq_false_iff_not]; omega
        simp [e]
    · have e : decide ((s.length : Int) ≤ 14) = false := by rw [decide_eq_false_iff_not]; omega
      simp [e]
  · have e : fewV T L = false := by simpa using hf
    simp [e]
end Go.Proofs.Ytcbiiijnaeibhaa

/- HeatOrdered as a plain law. -/
import Derived.Test.YtcbiiijnaeibhaaHeatS
import Derived.Test.YtcbiiijnaeibhaaF18
set_option linter.unusedVariables false
set_option linter.unusedSimpArgs false
namespace Go.Proofs.Ytcbiiijnaeibhaa
open Go.Abs

/-- the numbers of the upper state -/
structure Upper (a b : Int) (T : List (Int × Int)) (s p0 : List Int) (i : Nat) (u w : List Int) : Prop where
  ulen : u.length = s.length
  wlen : w.length = s.length
  le : ∀ j, j < s.length → s.getD j default ≤ u.getD j default
  top : ∀ j, j < s.length → inT T (u.getD j default) = true
  pw : ∀ j, j < i → p0.getD j default ≤ w.getD j default
  rng : ∀ j, j < s.length → 0 ≤ w.getD j default ∧ w.getD j default ≤ 10000
theorem outS_leL {a b : Int} {T : List (Int × Int)} {L : List (List (Int × Int))} (ok : SetOk a b T L) {s u p w : List Int} {i j : Int} (hi : 0 ≤ i ∧ i < L.length) (hj : 0 ≤ j ∧ j < L.length) (hij : j ≤ i) (h : leL s u) (hp : leL p w) :
    leL (outS b T (L.getD i.toNat default) s p) (outS b T (L.getD j.toNat default) u w) :=
  outS_mono ok.mix ok.asc (ok.laws i.toNat (by omega)).asc (fun x => ok.law_mono j.toNat i.toNat (by omega) (by omega) x) h hp
theorem b9_2_all (x y : List Int × Int) (h : leL x.1 y.1) (hl : x.1.length < 1000) : iterC (b9_2 x y) 1000000000 0 = some true := by
  obtain ⟨h1, h2⟩ := leL_get h
  refine iter_run x.1.length (b9_2 x y) (fun i => (i : Int)) _ (by omega) (fun i hi => ?_) (by simp [b9_2])
  have h3 := h2 i hi
  have e : ¬ (decide ((x.1.getD i default) > (y.1.getD i default))) = true := by rw [decide_eq_true_eq]; omega
  simp only [b9_2, ltN hi, if_true, if_pos (rgN hi), if_pos (rgN (show i < y.1.length by omega)), Int.toNat_natCast, if_neg e, wS i (by omega)]
  rfl
theorem ordered (a b : Int) (T : List (Int × Int)) (L : List (List (Int × Int))) (s more p0 : List Int) (law0 : Int) (p1 : List Int) (law1 : Int) : r9 a b T L s more p0 law0 p1 law1 = some true := by
  unfold r9
  rw [awake, Option.bind_some, if_neg (by simp), p15, Option.bind_some, p16, gS, Option.getD_some, p16, gS, Option.getD_some, p16, gS, Option.getD_some]
  by_cases hf : fewV T L = true
  · obtain ⟨h1, h2, h3⟩ := few_of hf
    by_cases hs : s.length ≤ 14
    · by_cases hp0 : p0.length ≤ 14
      · by_cases hp1 : p1.length ≤ 14
        · rw [p21 a b T L s (by omega) (by omega) h3 (by omega), gS, Option.getD_some, p70 a b T L p0 law0 (by omega) (by omega), gS, Option.getD_some, p70 a b T L p1 law1 (by omega) (by omega), gS, Option.getD_some]
          split
          · rfl
          · rename_i hc
            simp only [Bool.or_eq_true, not_or, Bool.not_eq_true, Bool.not_eq_false', bne_eq_false_iff_eq, decide_eq_false_iff_not] at hc
            obtain ⟨⟨⟨⟨⟨⟨⟨⟨_, _⟩, hm⟩, _⟩, _⟩, hst⟩, hd0⟩, hd1⟩, hlaw⟩ := hc
            have H := allOk_of hst
            have htl := H.ok.tlen
            have hcl := H.ok.cells
            have hlen := H.len
            have D0 := drive_ok hd0
            have D1 := drive_ok hd1
            have hml : more.length = s.length := by omega
            rw [wP T.length (by omega), if_pos ⟨by omega, by omega⟩, p19 s (by omega), Option.bind_some, p19 p1 (by omega), Option.bind_some]
            have r1 := H.ok.srt.rng (T.length - 1) (by omega)
            refine iter_inv (b9_1 a b T L s more p0 law0 law1) (fun i st => st.1 = (i : Int) ∧ Upper a b T s p0 i st.2.1 st.2.2) (fun r => r = some true) s.length ?_ ?_ (0, s, p1) ⟨rfl, ?_⟩ 1000000000 (by omega)
            · rintro i ⟨i', u, w⟩ hi ⟨rfl, U⟩
              replace U : Upper a b T s p0 i u w := U
              have hul := U.ulen
              have hwl := U.wlen
              have e1 : (i : Int).toNat = i := Int.toNat_natCast i
              unfold b9_1
              simp only [e1]
              rw [if_pos (ltN (show i < u.length by omega)), if_pos (rgN (show i < more.length by omega)), p59]
              simp only [bindC]
              cases hr : inR (more.getD i default) 0 1000000 with
              | false => right; exact ⟨some true, by rfl, rfl⟩
              | true =>
                rw [inR_iff] at hr
                left
                have hu := U.top i hi
                have hur := inT_rng H.ok hu
                rw [inT_iff H.ok] at hu
                rw [if_neg (by simp), if_pos (rgN (show i < u.length by omega)), if_pos (rgN (show i < more.length by omega)), if_pos (rgN (show i < w.length by omega)), if_pos (rgN (show i < p0.length by omega)), if_pos (rgN (show i < u.length by omega)), if_pos (rgN (show i < w.length by omega)), wS i (by omega), wP T.length (by omega), wPn, IntWalk.i64_in (u.getD i default + more.getD i default) ⟨by omega, by omega⟩]
                refine ⟨_, rfl, by simp, ?_⟩
                have hp := D0.2.1 _ (getD_mem (show i < p0.length by omega))
                have hw := U.rng i hi
                refine ⟨by simp [hul], by simp [hwl], fun j hj => ?_, fun j hj => ?_, fun j hj => ?_, fun j hj => ?_⟩
                · simp only
                  rw [getD_set _ _ _ _ (by omega)]
                  have := U.le j hj
                  split
                  · rename_i hij; subst hij; split <;> omega
                  · exact this
                · simp only
                  rw [getD_set _ _ _ _ (by omega)]
                  split
                  · rename_i hij; subst hij; rw [inT_iff H.ok]; split <;> omega
                  · exact U.top j hj
                · simp only
                  rw [getD_set _ _ _ _ (by omega)]
                  split
                  · rename_i hij; subst hij; split <;> omega
                  · exact U.pw j (by omega)
                · simp only
                  rw [getD_set _ _ _ _ (by omega)]
                  split
                  · rename_i hij; subst hij; split <;> omega
                  · exact U.rng j hj
            · rintro ⟨i', u, w⟩ ⟨hi, U⟩
              replace U : Upper a b T s p0 s.length u w := U
              simp only at hi
              have hul := U.ulen
              have hwl := U.wlen
              have hle : leL s u := leL_of s u (by omega) U.le
              have hpw : leL p0 w := leL_of p0 w (by omega) (fun j hj => U.pw j (by omega))
              have HU : AllOk a b T L u := ⟨H.ok, H.set0, by omega, fun x hx => by
                obtain ⟨j, hj, rfl⟩ := mem_getD hx
                exact U.top j (by omega)⟩
              have hdw : driveErrV a L w law1 = 0 := drive_zero (by omega) (fun x hx => by
                obtain ⟨j, hj, rfl⟩ := mem_getD hx
                exact U.rng j (by omega)) D1.2.2
              unfold b9_1
              simp only
              rw [if_neg (by rw [hi, decide_eq_true_eq]; omega), p18 a b T L (by omega) (by omega) h3, Option.bind_some, p19 s (by omega), Option.bind_some, r65, p19 p0 (by omega), Option.bind_some, Option.bind_some]
              simp only
              rw [p64 a b T L s p0 law0 (by omega) (by omega) h3 (by omega) (by omega), Option.bind_some, p64 a b T L u w law1 (by omega) (by omega) h3 (by omega) (by omega), Option.bind_some, H.stepped hd0, HU.stepped hdw]
              refine ⟨_, rfl, ?_⟩
              have hout := outS_leL H.ok D0.2.2 D1.2.2 (by omega) hle hpw
              have l1 := outS_len b T (L.getD law0.toNat default) s p0
              have l2 := outS_len b T (L.getD law1.toNat default) u w
              unfold stepV
              generalize outS b T (L.getD law0.toNat default) s p0 = o1 at *
              generalize outS b T (L.getD law1.toNat default) u w = o2 at *
              by_cases c1 : o1.all (inT T) = true
              · by_cases c2 : o2.all (inT T) = true
                · rw [if_pos c1, if_pos c2, if_neg (by simp), if_neg (by simp; omega)]
                  exact b9_2_all (o1, 0) (o2, 0) hout (by simp only; omega)
                · rw [if_pos c1, if_neg c2]; rfl
              · rw [if_neg c1]
                by_cases c2 : o2.all (inT T) = true
                · rw [if_pos c2]; rfl
                · rw [if_neg c2]; rfl
            · refine ⟨rfl, by simp only; omega, fun j hj => Int.le_refl _, fun j hj => H.ins _ (getD_mem hj), fun j hj => by omega, fun j hj => D1.2.1 _ (getD_mem (by omega))⟩
        · have e : decide ((p1.length : Int) ≤ 14) = false := by rw [decide_eq_false_iff_not]; omega
          simp [e]
      · have e : decide ((p0.length : Int) ≤ 14) = false := by rw [decide_eq_false_iff_not]; omega
        simp [e]
    · have e : decide ((s.length : Int) ≤ 14) = false := by rw [decide_eq_false_iff_not]; omega
      simp [e]
  · have e : fewV T L = false := by simpa using hf
    simp [e]
end Go.Proofs.Ytcbiiijnaeibhaa

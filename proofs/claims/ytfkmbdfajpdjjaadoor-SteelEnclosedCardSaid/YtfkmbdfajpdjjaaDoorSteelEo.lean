/- SteelEnclosed as a plain law: the law itself. -/
import Derived.Test.YtfkmbdfajpdjjaaDoorSteelEn
set_option linter.unusedVariables false
set_option linter.unusedSimpArgs false
namespace Go.Proofs.YtfkmbdfajpdjjaaDoor
open Go.Abs

theorem bindC_some {α σ ρ : Type} (v : α) (f : α → Ctl σ ρ) : bindC (some v) f = f v := rfl
section
variable {H : List (Int × Int × Int × Int)} {C : List (Int × Int × Int × Int × Int)} {Q : List (Int × Int × Int)} {T : List (Int × Int)} {a b c d : Int}
abbrev mk11 (i : Int) (s : St7 × BxV) : Int × Int × Int × Int × Int × Int × Int × Int × Int × Int × Int × Int × Int × Int × Int × Int × Int × Int × Int × Int × Int × Int :=
  (i, s.1.1, s.1.2.1, s.1.2.2.1, s.1.2.2.2.1, s.1.2.2.2.2.1, s.1.2.2.2.2.2.1, s.1.2.2.2.2.2.2, s.2.pl, s.2.ph, s.2.al, s.2.ah, s.2.bl, s.2.bh, s.2.ml, s.2.mh, s.2.wl, s.2.wh, s.2.gl, s.2.gh, s.2.tl, s.2.th)
theorem round11 (ok : RulOk H C Q T a b c d) {v : Int × Int} (hv : rulV H C Q T a b c d = some v) (h0 : v.2 = 0) {l : List (Int × Int)} (hl : l.length ≤ 30) (hr : rangsE l = 0) {ph pc pq : Int} (hp : pickE ph pc pq = 0) {ns : List Int} (hn : 0 < ns.length) (hn2 : ns.length ≤ 40)
    (i : Nat) (s : St7 × BxV) (hi : i < l.length) (hs : StO s.1 ∧ BI s.2 ∧ InT s.2 s.1) :
    ∃ s' : St7 × BxV, b11_1 H C Q T a b c d l ph pc pq ns (mk11 i s) = .next (mk11 ((i : Int) + 1) s') ∧ StO s'.1 ∧ BI s'.2 ∧ InT s'.2 s'.1 := by
  have l1 := ok.lH; have l2 := ok.lC; have l3 := ok.lQ; have l4 := ok.lT
  have q5 := ok.hd
  obtain ⟨k1, k2, k3⟩ := pick_ok hp
  obtain ⟨⟨p, s, e, m, w, g, t⟩, x⟩ := s
  obtain ⟨st, hx, hin⟩ := hs
  have st : StOk p s e m w g t := st
  have hin : InB x p s e m w g t := hin
  have hr2 := (rangsE_ok hr).2 _ (getD_mem hi)
  have hr3 := rangE_ok hr2
  obtain ⟨z1, e1, z1a, z1b⟩ := p54 (i : Int) (by_ := (ns.length : Int)) (by omega) (by omega)
  obtain ⟨z2, e2, z2a, z2b⟩ := p54 (ns.getD z1.toNat default) (by_ := (l.getD i default).2 - (l.getD i default).1 + 1) (by omega) (by omega)
  have hk : (l.getD i default).1 ≤ (l.getD i default).1 + z2 ∧ (l.getD i default).1 + z2 ≤ (l.getD i default).2 := by omega
  have hX := step_ok ok.toKnOk (k := (l.getD i default).1 + z2) k1 k2 k3 st
  have hY := range_in ok.toKnOk hk k1 k2 k3 hx.1 st hin
  have hB := hx.range ok.toKnOk (l.getD i default).1 (l.getD i default).2
  have e30 := p30 ok hv h0 (k := (l.getD i default).1 + z2) ⟨by omega, by omega⟩ k1 k2 k3 st
  obtain ⟨y, hy⟩ : ∃ y, rangeV H C Q T (l.getD i default).1 (l.getD i default).2 x = y := ⟨_, rfl⟩
  have e55 := p55 ok hv h0 hx hr2 hy
  rw [hy] at hY hB
  have hX1 := hX.1
  generalize stepV H C Q T ((l.getD i default).1 + z2) ph pc pq p s e m w g t = X at e30 hY hX1
  obtain ⟨p', s', e', m', w', g', t'⟩ := X
  have st' : StOk p' s' e' m' w' g' t' := hX1
  have hin' : InB y p' s' e' m' w' g' t' := hY
  have hbd := band_in ok hB.1 st' hin'
  refine ⟨((p', s', e', m', w', g', t'), y), ?_, st', hB, hin'⟩
  unfold b11_1
  refine (if_pos (ltN hi)).trans ((if_pos (rgN hi)).trans ?_)
  show bindC (r54 (i : Int) (ns.length : Int)) (fun v4 => _) = _
  rw [e1, bindC_some]
  refine (if_pos ⟨by omega, by omega⟩).trans ((if_pos (rgN hi)).trans ((if_pos (rgN hi)).trans ?_))
  dsimp only [mk11]
  rw [Int.toNat_natCast, wI (a := (l.getD i default).2 - (l.getD i default).1) (by omega) (by omega), wI (a := (l.getD i default).2 - (l.getD i default).1 + 1) (by omega) (by omega), e2, bindC_some, p15 a b c d ⟨by omega, by omega, by omega, by omega⟩, bindC_some]
  dsimp only
  rw [wI (a := (l.getD i default).1 + z2) (by omega) (by omega), e30, bindC_some]
  refine (if_pos (rgN hi)).trans ?_
  rw [e55, bindC_some]
  dsimp only
  rw [p18, staE_of st', p56, boxE_of hB, p57 hin']
  refine (if_pos (fun _ => rfl)).trans ((if_pos (fun _ => rfl)).trans ((if_pos (fun _ => rfl)).trans ((if_neg (by decide)).trans ?_)))
  rw [p31 ok hv h0 st', bindC_some, p58 ok hv h0 hB, bindC_some]
  dsimp only
  rw [p29, inR_iff.2 hbd]
  refine (if_pos (fun _ => rfl)).trans ((if_neg (by decide)).trans ?_)
  rw [wS i (by omega)]
end
theorem enclosed (H : List (Int × Int × Int × Int)) (C : List (Int × Int × Int × Int × Int)) (Q : List (Int × Int × Int)) (T : List (Int × Int)) (a b c d p s e m w g t : Int) (l : List (Int × Int)) (ph pc pq : Int) (ns : List Int) :
    r11 H C Q T a b c d p s e m w g t l ph pc pq ns = some true := by
  obtain ⟨v, hv⟩ := rulV_some H C Q T a b c d
  unfold r11
  rw [awakeS, Option.bind_some]
  refine (if_neg (by decide)).trans ?_
  rw [p13, Option.bind_some]
  by_cases hf : H.length ≤ 10 ∧ C.length ≤ 10 ∧ Q.length ≤ 10 ∧ T.length ≤ 10
  · by_cases hl : 30 < l.length
    · have hl2 : (decide ((l.length : Int) > 30)) = true := decide_eq_true (by omega)
      simp only [hl2, Bool.or_true, Bool.true_or, Bool.not_true]
      refine (if_pos (fun h => by cases h)).trans ((if_pos (fun h => by cases h)).trans ((if_pos (fun h => by cases h)).trans ((if_pos (fun h => by cases h)).trans (if_pos trivial))))
    · have hl2 : (decide ((l.length : Int) > 30)) = false := decide_eq_false (by omega)
      have hf2 : (decide (H.length ≤ 10 ∧ C.length ≤ 10 ∧ Q.length ≤ 10 ∧ T.length ≤ 10)) = true := decide_eq_true hf
      simp only [hl2, hf2, p21 hv, p18, p52 l (by omega), p20, Option.isSome_some, Option.getD_some, implies_true]
      refine (if_pos trivial).trans ((if_pos trivial).trans ((if_pos trivial).trans ((if_pos trivial).trans ?_)))
      by_cases h0 : v.2 = 0
      · by_cases hs : staE p s e m w g t = 0
        · by_cases hc : rangsE l = 0
          · by_cases hp : pickE ph pc pq = 0
            · by_cases hn : 0 < ns.length ∧ ns.length ≤ 40
              · have n1 : ((ns.length : Int) == 0) = false := beq_false_of_ne (by omega)
                have n2 : (decide ((ns.length : Int) > 40)) = false := decide_eq_false (by omega)
                refine (if_neg (by simp [h0, hs, hc, hp, n1, n2])).trans ?_
                have ok := rul_of hv h0
                have st := st_of hs
                rw [p53 st, Option.bind_some]
                refine (if_neg (by simp)).trans ?_
                have pt := point_bi st
                exact iter_allM l.length (by omega) mk11 (b11_1 H C Q T a b c d l ph pc pq ns) (fun x => StO x.1 ∧ BI x.2 ∧ InT x.2 x.1) (fun i x hi hx => round11 ok hv h0 (by omega) hc hp hn.1 hn.2 i x hi hx) (fun x hx => if_neg (by simp)) ((p, s, e, m, w, g, t), pointB p s e m w g t) ⟨st, pt.1, pt.2⟩
              · by_cases hz : ns.length = 0
                · have n1 : ((ns.length : Int) == 0) = true := beq_iff_eq.2 (by omega)
                  exact if_pos (by simp only [n1, Bool.or_true, Bool.true_or])
                · have n2 : (decide ((ns.length : Int) > 40)) = true := decide_eq_true (by omega)
                  exact if_pos (by simp only [n2, Bool.or_true])
            · exact if_pos (by simp [hp])
          · exact if_pos (by simp [hc])
        · exact if_pos (by simp [hs])
      · exact if_pos (by simp [h0])
  · have hf2 : (decide (H.length ≤ 10 ∧ C.length ≤ 10 ∧ Q.length ≤ 10 ∧ T.length ≤ 10)) = false := decide_eq_false hf
    simp only [hf2, Bool.not_false, Bool.true_or, Bool.not_true]
    refine (if_pos (fun h => by cases h)).trans ((if_pos (fun h => by cases h)).trans ((if_pos (fun h => by cases h)).trans ((if_pos (fun h => by cases h)).trans (if_pos trivial))))
end Go.Proofs.YtfkmbdfajpdjjaaDoor

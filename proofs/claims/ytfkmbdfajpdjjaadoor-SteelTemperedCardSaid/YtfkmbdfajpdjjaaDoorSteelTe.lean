/- SteelTempered as a plain law. -/
import Derived.Test.YtfkmbdfajpdjjaaDoorSteelSh
import Derived.Test.YtfkmbdfajpdjjaaDoorF13
set_option linter.unusedVariables false
set_option linter.unusedSimpArgs false
namespace Go.Proofs.YtfkmbdfajpdjjaaDoor
open Go.Abs

theorem iter_allM {σ τ : Type} (n : Nat) (hn : n < 1000000000) (mk : Int → σ → τ) (B : τ → Ctl τ Bool) (I : σ → Prop) (step : ∀ (i : Nat) (s : σ), i < n → I s → ∃ s', B (mk (i : Int) s) = .next (mk ((i : Int) + 1) s') ∧ I s')
    (stop : ∀ s, I s → B (mk (n : Int) s) = .out (some true)) (s0 : σ) (h0 : I s0) : iterC B 1000000000 (mk 0 s0) = some true := by
  have key : ∀ (k i fuel : Nat) (s : σ), i + k = n → k < fuel → I s → iterC B fuel (mk (i : Int) s) = some true := by
    intro k
    induction k with
    | zero =>
      intro i fuel s hi hf hs
      obtain ⟨m, rfl⟩ : ∃ m, fuel = m + 1 := ⟨fuel - 1, by omega⟩
      obtain rfl : i = n := by omega
      simp only [iterC, stop s hs]
    | succ k ih =>
      intro i fuel s hi hf hs
      obtain ⟨m, rfl⟩ : ∃ m, fuel = m + 1 := ⟨fuel - 1, by omega⟩
      obtain ⟨s', h1, h2⟩ := step i s (by omega) hs
      simp only [iterC, h1]
      exact ih (i + 1) m s' (by omega) (by omega) h2
  exact key n 0 1000000000 s0 (by omega) hn h0
section
variable {H : List (Int × Int × Int × Int)} {C : List (Int × Int × Int × Int × Int)} {Q : List (Int × Int × Int)} {T : List (Int × Int)} {a b c d : Int}
theorem p33 (k : Int) (hl : H.length < 1000000000) : ∃ z, r33 H C Q T a b c d k = some z ∧ (z < 0 → heatAt H k = none) := by
  unfold r33 heatAt
  have h := iter_list (τ := Int) H (b33_1 H k) (fun i t => (t, i)) (fun i t x => .next (if decide (x.1 ≤ k) = true then i else t)) (fun t => some t) hl
    (fun i t hi => by
      refine (if_pos (ltN hi)).trans ((if_pos (rgN hi)).trans ?_)
      rw [Int.toNat_natCast, wS i (by omega)]
      by_cases g : (decide ((H.getD i default).1 ≤ k)) = true
      · simp only [g, if_true, mapC]
      · simp only [if_neg g, mapC])
    (fun t => if_neg (by simp)) (-1)
  rw [h]
  have key : ∀ (r : List (Int × Int × Int × Int)) (i t : Int), 0 ≤ i → ∃ z, foldC (ρ := Int) (fun i t x => Ctl.next (if decide (x.1 ≤ k) = true then i else t)) (fun t => some t) i r t = some z ∧ (z < 0 → t < 0 ∧ lastP (fun x => decide (x.1 ≤ k)) r = none) := by
    intro r
    induction r with
    | nil => intro i t hi; exact ⟨t, rfl, fun h => ⟨h, rfl⟩⟩
    | cons x r ih =>
      intro i t hi
      obtain ⟨z, h1, h2⟩ := ih (i + 1) (if decide (x.1 ≤ k) = true then i else t) (by omega)
      refine ⟨z, h1, fun hz => ?_⟩
      obtain ⟨g1, g2⟩ := h2 hz
      by_cases g : (decide (x.1 ≤ k)) = true
      · rw [if_pos g] at g1; omega
      · rw [if_neg g] at g1
        exact ⟨g1, by simp only [lastP, g2, if_neg g]⟩
  obtain ⟨z, h1, h2⟩ := key H 0 (-1) (Int.le_refl _)
  exact ⟨z, h1, fun hz => (h2 hz).2⟩
theorem p34 (k : Int) (hl : C.length < 1000000000) : ∃ z, r34 H C Q T a b c d k = some z ∧ (z < 0 → coolAt C k = none) := by
  unfold r34 coolAt
  have h := iter_lead C (b34_1 C k) (fun x => !decide (x.1 ≥ k)) (fun i => some (if i < C.length then i else -1)) hl (fun i hi => by
    refine (if_pos (ltN hi)).trans ((if_pos (rgN hi)).trans ?_)
    rw [wS i (by omega), Int.toNat_natCast]
    by_cases g : (decide ((C.getD i default).1 ≥ k)) = true
    · rw [if_pos g, if_neg (by rw [g]; decide), if_pos (by omega)]
    · rw [if_neg g, if_pos (by simpa using g)]) ((if_neg (by simp)).trans (by simp))
  refine ⟨_, h, fun hz => ?_⟩
  rw [find_lead]
  by_cases g : lead (fun x : Int × Int × Int × Int × Int => !decide (x.1 ≥ k)) C < C.length
  · rw [if_pos (by omega)] at hz; omega
  · rw [if_neg g]
theorem p35 (k : Int) (hl : Q.length < 1000000000) : ∃ z, r35 H C Q T a b c d k = some z ∧ (z < 0 → coldAt Q k = none) := by
  unfold r35 coldAt
  have h := iter_lead Q (b35_1 Q k) (fun x => !decide (x.1 ≥ k)) (fun i => some (if i < Q.length then i else -1)) hl (fun i hi => by
    refine (if_pos (ltN hi)).trans ((if_pos (rgN hi)).trans ?_)
    rw [wS i (by omega), Int.toNat_natCast]
    by_cases g : (decide ((Q.getD i default).1 ≥ k)) = true
    · rw [if_pos g, if_neg (by rw [g]; decide), if_pos (by omega)]
    · rw [if_neg g, if_pos (by simpa using g)]) ((if_neg (by simp)).trans (by simp))
  refine ⟨_, h, fun hz => ?_⟩
  rw [find_lead]
  by_cases g : lead (fun x : Int × Int × Int => !decide (x.1 ≥ k)) Q < Q.length
  · rw [if_pos (by omega)] at hz; omega
  · rw [if_neg g]
theorem hd_mono (ok : RulOk H C Q T a b c d) {p s e m w g t t' : Int} (st : StOk p s e m w g t) (h : t ≤ t') : hdV a b c d p s e m t' ≤ hdV a b c d p s e m t := by
  have q1 := ok.ha; have q2 := ok.hab; have q3 := ok.hbc; have q4 := ok.hcd
  obtain ⟨sp, sa, sb, sm, sw, sg, stt, ssum⟩ := st
  have h1 : mHard c d t' ≤ mHard c d t := by unfold mHard; split <;> split <;> omega
  have h2 : c ≤ mHard c d t' := by unfold mHard; split <;> omega
  have h3 := Int.mul_le_mul_of_nonneg_left h1 sm.1
  have z1 := Int.mul_nonneg sp.1 q1
  have z2 := Int.mul_nonneg sa.1 (show 0 ≤ b by omega)
  have z3 := Int.mul_nonneg sb.1 (show 0 ≤ c by omega)
  have z4 := Int.mul_nonneg sm.1 (show 0 ≤ mHard c d t' by omega)
  unfold hdV
  rw [Int.tdiv_eq_ediv_of_nonneg (by omega), Int.tdiv_eq_ediv_of_nonneg (by omega)]
  omega
end
theorem tempered (H : List (Int × Int × Int × Int)) (C : List (Int × Int × Int × Int × Int)) (Q : List (Int × Int × Int)) (T : List (Int × Int)) (a b c d p s e m w g t k n : Int) :
    r7 H C Q T a b c d p s e m w g t k n = some true := by
  obtain ⟨v, hv⟩ := rulV_some H C Q T a b c d
  unfold r7
  rw [awakeS, Option.bind_some]
  refine (if_neg (by decide)).trans ?_
  rw [p13, Option.bind_some]
  by_cases hf : H.length ≤ 10 ∧ C.length ≤ 10 ∧ Q.length ≤ 10 ∧ T.length ≤ 10
  · have hf2 : (decide (H.length ≤ 10 ∧ C.length ≤ 10 ∧ Q.length ≤ 10 ∧ T.length ≤ 10)) = true := decide_eq_true hf
    obtain ⟨z1, e1, i1⟩ := p33 (H := H) (C := C) (Q := Q) (T := T) (a := a) (b := b) (c := c) (d := d) k (by omega)
    obtain ⟨z2, e2, i2⟩ := p34 (H := H) (C := C) (Q := Q) (T := T) (a := a) (b := b) (c := c) (d := d) k (by omega)
    obtain ⟨z3, e3, i3⟩ := p35 (H := H) (C := C) (Q := Q) (T := T) (a := a) (b := b) (c := c) (d := d) k (by omega)
    have e32 : r32 k = some (kelE k) := p32 k
    simp only [hf2, p21 hv, p18, e32, p29, e1, e2, e3, Option.isSome_some, Option.getD_some, implies_true]
    refine (if_pos trivial).trans ((if_pos trivial).trans ((if_pos trivial).trans ((if_pos trivial).trans ((if_pos trivial).trans ((if_pos trivial).trans ((if_pos trivial).trans ?_))))))
    by_cases h0 : v.2 = 0
    · by_cases hs : staE p s e m w g t = 0
      · by_cases hk : kelE k = 0
        · by_cases hn : inR n 0 30 = true
          · by_cases g1 : z1 < 0
            · by_cases g2 : z2 < 0
              · by_cases g3 : z3 < 0
                · refine (if_neg (by simp [h0, hs, hk, hn]; omega)).trans ?_
                  have ok := rul_of hv h0
                  have st := st_of hs
                  have hk2 : 1 ≤ k ∧ k ≤ 3000 := by
                    unfold kelE at hk; split at hk
                    · rename_i h1; exact inR_iff.1 h1
                    · exact absurd hk (by decide)
                  have hn2 := inR_iff.1 hn
                  rw [p15 a b c d hf, Option.bind_some]
                  show (r31 H C Q T a b c d p s e m w g t).bind _ = _
                  rw [p31 ok hv h0 st, Option.bind_some]
                  refine (if_neg (by simp)).trans ?_
                  obtain ⟨N, hN⟩ : ∃ N : Nat, n = N := ⟨n.toNat, by omega⟩
                  subst hN
                  refine iter_allM N (by omega) (fun i (x : Int × St7) => (x.1, i, x.2)) (b7_1 H C Q T a b c d k N) (fun x => StO x.2 ∧ x.1 = hdV a b c d x.2.1 x.2.2.1 x.2.2.2.1 x.2.2.2.2.1 x.2.2.2.2.2.2.2) (fun i x hi hx => ?_) (fun x hx => if_neg (by simp)) (hdV a b c d p s e m t, p, s, e, m, w, g, t) ⟨st, rfl⟩
                  obtain ⟨h, p, s, e, m, w, g, t⟩ := x
                  obtain ⟨hx, hh⟩ := hx
                  obtain rfl : h = hdV a b c d p s e m t := hh
                  have hx : StOk p s e m w g t := hx
                  obtain ⟨n1, _, n3⟩ := step_ok ok.toKnOk (k := k) (ph := 0) (pc := 0) (pq := 0) ⟨by decide, by decide⟩ ⟨by decide, by decide⟩ ⟨by decide, by decide⟩ hx
                  have q30 := p30 ok hv h0 (k := k) (ph := 0) (pc := 0) (pq := 0) hk2 ⟨by decide, by decide⟩ ⟨by decide, by decide⟩ ⟨by decide, by decide⟩ hx
                  have q31 := p31 ok hv h0 n1
                  have eN : stepV H C Q T k 0 0 0 p s e m w g t = (p, s - (m - m), e, m, w, g, temO (tempAt T k) t) := by
                    unfold stepV; rw [i1 g1, i2 g2, i3 g3]; rfl
                  have et := (n3 (i1 g1)).2.2.2.2
                  rw [eN] at n1 q30 q31 et
                  have em : s - (m - m) = s := by omega
                  rw [em] at n1 q30 q31
                  generalize temO (tempAt T k) t = t' at n1 q30 q31 et
                  have hmono := hd_mono ok hx (show t ≤ t' from et)
                  refine ⟨(hdV a b c d p s e m t', p, s, e, m, w, g, t'), ?_, n1, rfl⟩
                  refine (if_pos (by simpa using hi)).trans ?_
                  rw [p15 a b c d hf]
                  show bindC (r30 H C Q T a b c d p s e m w g t k 0 0 0) _ = _
                  rw [q30]
                  show (if (!((((((0 : Int) != 0) || (p != p)) || (s != s)) || (e != e)) || (m != m))) = true → (r18 p s e m w g t').isSome = true then (if ((((((0 : Int) != 0) || (p != p)) || (s != s)) || (e != e)) || (m != m) || (r18 p s e m w g t').getD default != 0) = true then _ else _) else _) = _
                  rw [p18, staE_of (show StOk p s e m w g t' from n1)]
                  refine (if_pos (fun _ => rfl)).trans ((if_neg (by simp)).trans ?_)
                  show bindC (r31 H C Q T a b c d p s e m w g t') _ = _
                  rw [show r31 H C Q T a b c d p s e m w g t' = some (hdV a b c d p s e m t', 0) from q31]
                  show (if (((0 : Int) != 0) || decide (hdV a b c d p s e m t' > hdV a b c d p s e m t)) = true then _ else _) = _
                  refine (if_neg (by simp; omega)).trans ?_
                  show Ctl.next (hdV a b c d p s e m t', IntKind.i64.wrap ((i : Int) + 1), p, s, e, m, w, g, t') = _
                  rw [wS i (by omega)]
                · exact if_pos (by simp; omega)
              · exact if_pos (by simp; omega)
            · exact if_pos (by simp; omega)
          · exact if_pos (by simp [hn])
        · exact if_pos (by simp [hk])
      · exact if_pos (by simp [hs])
    · exact if_pos (by simp [h0])
  · have hf2 : (decide (H.length ≤ 10 ∧ C.length ≤ 10 ∧ Q.length ≤ 10 ∧ T.length ≤ 10)) = false := decide_eq_false hf
    simp only [hf2, Bool.not_false, Bool.true_or, Bool.not_true]
    refine (if_pos (fun h => by cases h)).trans ((if_pos (fun h => by cases h)).trans ((if_pos (fun h => by cases h)).trans ((if_pos (fun h => by cases h)).trans ((if_pos (fun h => by cases h)).trans ((if_pos (fun h => by cases h)).trans ((if_pos (fun h => by cases h)).trans (if_pos trivial)))))))
end Go.Proofs.YtfkmbdfajpdjjaaDoor

/- Field: greatest common divisors, reduced quotients, of the code and of the reference. -/
import Derived.Test.YtagnplbfdaifkaaFieldE
import Derived.Test.YtagnplbfdaifkaaF02
import Derived.Test.YtagnplbfdaifkaaF06
set_option linter.unusedVariables false
set_option linter.unusedSimpArgs false
namespace Go.Proofs.Ytagnplbfdaifkaa
open Go.Abs

theorem iter_invF {σ ρ : Type} (n : Nat) (b : σ → Ctl σ ρ) (Inv : Nat → σ → Prop) (Q : Option ρ → Prop) (hn : n < 1000000000)
    (step : ∀ i : Nat, i < n → ∀ s, Inv i s → ∃ s', b s = .next s' ∧ Inv (i + 1) s') (stop : ∀ s, Inv n s → ∃ o, b s = .out o ∧ Q o) {s0 : σ} (h0 : Inv 0 s0) : Q (iterC b 1000000000 s0) := by
  have key : ∀ (k i fuel : Nat) (s : σ), i + k = n → k < fuel → Inv i s → Q (iterC b fuel s) := by
    intro k
    induction k with
    | zero =>
      intro i fuel s hi hf hs
      obtain ⟨m, rfl⟩ : ∃ m, fuel = m + 1 := ⟨fuel - 1, by omega⟩
      obtain rfl : i = n := by omega
      obtain ⟨o, e, q⟩ := stop s hs
      simp only [iterC, e]; exact q
    | succ k ih =>
      intro i fuel s hi hf hs
      obtain ⟨m, rfl⟩ : ∃ m, fuel = m + 1 := ⟨fuel - 1, by omega⟩
      obtain ⟨s', e, hs'⟩ := step i (by omega) s hs
      simp only [iterC, e]
      exact ih (i + 1) m s' (by omega) (by omega) hs'
  exact key n 0 1000000000 s0 (by omega) hn h0
def R63 (a : Int) : Prop := -9223372036854775807 ≤ a ∧ a ≤ 9223372036854775807
theorem R63_mod {a b : Int} (ha : R63 a) (hb : R63 b) : R63 (a.tmod b) := by
  have h := tmod_abs a b
  have h2 := Nat.mod_le a.natAbs b.natAbs
  unfold R63 at *
  omega
theorem R63_abs {a : Int} (ha : R63 a) : a.natAbs < 2 ^ 63 := by
  unfold R63 at ha
  have : (2 : Nat) ^ 63 = 9223372036854775808 := by decide
  omega
theorem p131 {a : Int} (ha : R63 a) : r131 a = some (a.natAbs : Int) := by
  unfold R63 at ha
  unfold r131
  rw [wI (a := 0 - a) (by omega) (by omega)]
  by_cases h : a < 0 - a
  · rw [if_pos h]; congr 1; omega
  · rw [if_neg h]; congr 1; omega
theorem p112 {a b : Int} (ha : R63 a) (hb : R63 b) : r112 a b = some (Int.gcd a b : Int) := by
  obtain ⟨g, _, h1, h2⟩ := euclid b112_1 (fun g => some (g.natAbs : Int)) R63 (fun _ _ => R63_mod) (fun a ra => by
    unfold b112_1
    rw [if_neg (by simp)]
    simp only []
    rw [p131 ra, Option.bind_some]) (fun a b ra rb hb0 => by
    unfold b112_1
    rw [if_pos (by simpa using hb0), if_pos hb0]) 63 a b 1000000000 ha hb (R63_abs hb) (by omega)
  unfold r112
  rw [h2, h1]
def gcdL (l : List Int) : Nat := l.foldl (fun g x => Nat.gcd g x.natAbs) 0
theorem gcdL_snoc (l : List Int) (x : Int) : gcdL (l ++ [x]) = Nat.gcd (gcdL l) x.natAbs := by
  simp [gcdL, List.foldl_append]
theorem p110_2 (s : Int × Int) {a b : Int} (ha : R63 a) (hb : R63 b) : ∃ g, R63 g ∧ g.natAbs = Int.gcd a b ∧ iterC (b110_2 s) 1000000000 (a, b) = some (.next (g, IntKind.i64.wrap (s.2 + 1))) := by
  exact euclid (b110_2 s) (fun g => some (.next (g, IntKind.i64.wrap (s.2 + 1)))) R63 (fun _ _ => R63_mod) (fun a ra => by
    unfold b110_2
    rw [if_neg (by simp)]) (fun a b ra rb hb0 => by
    unfold b110_2
    rw [if_pos (by simpa using hb0), if_pos hb0]) 63 a b 1000000000 ha hb (R63_abs hb) (by omega)
theorem p110 (l : List Int) (hl : l.length ≤ 1000000) (h : ∀ x ∈ l, R63 x) : r110 l = some (gcdL l : Int) := by
  unfold r110
  refine iter_invF l.length (b110_1 l) (fun i s => s.2 = (i : Int) ∧ R63 s.1 ∧ s.1.natAbs = gcdL (l.take i)) (fun o => o = some (gcdL l : Int)) (by omega) (fun i hi s hs => ?_) (fun s hs => ?_) ⟨rfl, ⟨by decide, by decide⟩, rfl⟩
  · obtain ⟨s1, s2⟩ := s
    obtain ⟨e, hr, hg⟩ := hs
    simp only [] at e hr hg
    subst e
    obtain ⟨g, g1, g2, g3⟩ := p110_2 (s1, (i : Int)) hr (h _ (getD_mem hi))
    refine ⟨(g, IntKind.i64.wrap ((i : Int) + 1)), ?_, ?_, g1, ?_⟩
    · simp only [b110_1, ltN hi, if_true, if_pos (rgN hi), Int.toNat_natCast, g3, Option.getD_some]
    · simp only [wS i (by omega)]; rfl
    · rw [take_getD hi, gcdL_snoc, ← hg]; exact g2
  · obtain ⟨s1, s2⟩ := s
    obtain ⟨e, hr, hg⟩ := hs
    simp only [] at e hr hg
    subst e
    rw [List.take_length] at hg
    refine ⟨some (gcdL l : Int), ?_, rfl⟩
    unfold b110_1
    rw [if_neg (by simp)]
    unfold R63 at hr
    simp only []
    rw [wI (a := 0 - s1) (by omega) (by omega)]
    congr 2
    split <;> omega
/-- a reduced quotient -/
def gcd4 (a b c d : Int) : Nat := Nat.gcd (Nat.gcd a.natAbs b.natAbs) (Nat.gcd c.natAbs d.natAbs)
def sg (c d : Int) (g : Int) : Int := if c < 0 ∨ c = 0 ∧ d < 0 then -g else g
def redV (a b c d : Int) : Int × Int × Int × Int :=
  if a = 0 ∧ b = 0 then (0, 0, 1, 0) else (a.tdiv (sg c d (gcd4 a b c d)), b.tdiv (sg c d (gcd4 a b c d)), c.tdiv (sg c d (gcd4 a b c d)), d.tdiv (sg c d (gcd4 a b c d)))
theorem gcd4_pos {a b : Int} (c d : Int) (h : ¬ (a = 0 ∧ b = 0)) : 0 < gcd4 a b c d := by
  unfold gcd4
  apply Nat.gcd_pos_of_pos_left
  rcases Nat.eq_zero_or_pos (Nat.gcd a.natAbs b.natAbs) with h0 | h0
  · rw [Nat.gcd_eq_zero_iff] at h0
    exact absurd ⟨by omega, by omega⟩ h
  · exact h0
theorem gcd4_le {a b : Int} (c d : Int) (ha : R63 a) (hb : R63 b) (h : ¬ (a = 0 ∧ b = 0)) : (gcd4 a b c d : Int) ≤ 9223372036854775807 := by
  have h1 : gcd4 a b c d ∣ Nat.gcd a.natAbs b.natAbs := Nat.gcd_dvd_left _ _
  unfold R63 at ha hb
  by_cases h0 : a = 0
  · have hb0 : 0 < b.natAbs := by omega
    have := Nat.le_of_dvd hb0 (Nat.dvd_trans h1 (Nat.gcd_dvd_right _ _))
    omega
  · have ha0 : 0 < a.natAbs := by omega
    have := Nat.le_of_dvd ha0 (Nat.dvd_trans h1 (Nat.gcd_dvd_left _ _))
    omega
theorem tdiv_rng {a g : Int} (ha : R63 a) (hg : g ≠ 0) : IntKind.i64.wrap (a.tdiv g) = a.tdiv g := by
  have : (a.tdiv g).natAbs ≤ a.natAbs := by
    rw [Int.natAbs_tdiv]; exact Nat.div_le_self _ _
  unfold R63 at ha
  exact wI (by omega) (by omega)
theorem sg_cond (c d : Int) : (decide (c < 0) || ((c == 0) && decide (d < 0))) = decide (c < 0 ∨ c = 0 ∧ d < 0) := by
  by_cases h1 : c < 0 <;> by_cases h2 : c = 0 <;> by_cases h3 : d < 0 <;> simp [h1, h2, h3]
theorem p128 {a b g : Int} (ha : R63 a) (hb : R63 b) (hg : g ≠ 0) : r128 a b g = some (a.tdiv g, b.tdiv g) := by
  unfold r128
  rw [if_pos hg, if_pos hg, tdiv_rng ha hg, tdiv_rng hb hg]
theorem p85 {a b c d : Int} (ha : R63 a) (hb : R63 b) (hc : R63 c) (hd : R63 d) : r85 a b c d = some (redV a b c d) := by
  unfold r85 redV
  have e : ((a == 0) && (b == 0)) = decide (a = 0 ∧ b = 0) := by by_cases h1 : a = 0 <;> by_cases h2 : b = 0 <;> simp [h1, h2]
  rw [e]
  by_cases h : a = 0 ∧ b = 0
  · rw [if_pos (by simpa using h), if_pos h]
  · have hg := gcd4_pos c d h
    have hl := gcd4_le c d ha hb h
    rw [if_neg (by simpa using h), if_neg h, p110 _ (by simp) (by simp only [List.mem_cons, List.not_mem_nil, or_false]; rintro x (rfl | rfl | rfl | rfl) <;> assumption), Option.bind_some]
    have eg : gcdL [a, b, c, d] = gcd4 a b c d := by simp [gcdL, gcd4, Nat.gcd_assoc]
    rw [eg, sg_cond, wI (a := 0 - (gcd4 a b c d : Int)) (by omega) (by omega)]
    unfold sg
    by_cases hs : c < 0 ∨ c = 0 ∧ d < 0
    · rw [if_pos (by simpa using hs), if_pos hs, Int.zero_sub, p128 ha hb (by omega), Option.bind_some, p128 hc hd (by omega), Option.bind_some]
    · rw [if_neg (by simpa using hs), if_neg hs, p128 ha hb (by omega), Option.bind_some, p128 hc hd (by omega), Option.bind_some]
theorem p92 {a b c d : Int} (ha : R63 a) (hb : R63 b) (hc : R63 c) (hd : R63 d) : r92 a b c d = some (redV a b c d) := by
  unfold r92 redV
  have e : ((a == 0) && (b == 0)) = decide (a = 0 ∧ b = 0) := by by_cases h1 : a = 0 <;> by_cases h2 : b = 0 <;> simp [h1, h2]
  rw [e]
  by_cases h : a = 0 ∧ b = 0
  · rw [if_pos (by simpa using h), if_pos h]
  · have hg := gcd4_pos c d h
    have hl := gcd4_le c d ha hb h
    have gR : ∀ x y : Int, R63 x → R63 y → R63 (Int.gcd x y : Int) := by
      intro x y hx hy
      unfold R63 at *
      by_cases h0 : x = 0
      · subst h0
        rw [Int.gcd_zero_left]
        omega
      · have := Nat.le_of_dvd (show 0 < x.natAbs by omega) (Nat.gcd_dvd_left x.natAbs y.natAbs)
        unfold Int.gcd
        omega
    rw [if_neg (by simpa using h), if_neg h, p112 ha hb, Option.bind_some, p112 hc hd, Option.bind_some, p112 (gR _ _ ha hb) (gR _ _ hc hd), Option.bind_some]
    have eg : Int.gcd (Int.gcd a b : Int) (Int.gcd c d : Int) = gcd4 a b c d := by simp [Int.gcd, gcd4]
    have hg' : (gcd4 a b c d : Int) ≠ 0 := by omega
    have hg2 : -(gcd4 a b c d : Int) ≠ 0 := by omega
    rw [eg, sg_cond, wI (a := 0 - (gcd4 a b c d : Int)) (by omega) (by omega)]
    unfold sg
    by_cases hs : c < 0 ∨ c = 0 ∧ d < 0
    · rw [if_pos (by simpa using hs), if_pos hs, Int.zero_sub]
      simp only [if_pos hg2, tdiv_rng ha hg2, tdiv_rng hb hg2, tdiv_rng hc hg2, tdiv_rng hd hg2]
    · rw [if_neg (by simpa using hs), if_neg hs]
      simp only [if_pos hg', tdiv_rng ha hg', tdiv_rng hb hg', tdiv_rng hc hg', tdiv_rng hd hg']
end Go.Proofs.Ytagnplbfdaifkaa

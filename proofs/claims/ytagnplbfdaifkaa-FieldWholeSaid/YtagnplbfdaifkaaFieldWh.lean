/- FieldWhole as a plain law. -/
import Derived.Test.YtagnplbfdaifkaaFieldH
import Derived.Test.YtagnplbfdaifkaaF13
set_option linter.unusedVariables false
set_option linter.unusedSimpArgs false
namespace Go.Proofs.Ytagnplbfdaifkaa
open Go.Abs

/-- comparing a whole number and a fraction -/
theorem p40 {n m k : Int} (hk : 0 < k) (hk2 : k ≤ 1000000000000000000) (hm : 0 ≤ m) (hm2 : m ≤ 4000000000000000000) (hn : -1 ≤ n) (hn2 : n ≤ 4000000000000000000) :
    r40 n 1 m k = some (if n * k < m then -1 else if n * k = m then 0 else 1) := by
  have h1 := Int.emod_add_mul_ediv m k
  have h3 := Int.emod_nonneg m (show k ≠ 0 by omega)
  have h5 := Int.emod_lt_of_pos m hk
  have q0 : 0 ≤ m / k := Int.ediv_nonneg hm (by omega)
  have q1 : m / k ≤ m := Int.ediv_le_self _ hm
  have f2 := p106 m k hk (by omega) (by omega)
  have f1 := p106 n 1 (by omega) (by omega) (by omega)
  rw [Int.ediv_one] at f1
  unfold r40
  rw [show (1000000000 : Nat) = 999999999 + 1 from rfl]
  have e4 : m / k * k = k * (m / k) := Int.mul_comm _ _
  have kq : 0 ≤ k * (m / k) := Int.mul_nonneg (by omega) q0
  have step : b40_1 (n, 1, m, k) = .out (some (if n * k < m then -1 else if n * k = m then 0 else 1)) := by
    simp only [b40_1, f1, f2, bindC]
    by_cases c1 : n < m / k
    · rw [if_pos (by simpa using c1)]
      have : (n + 1) * k ≤ m / k * k := Int.mul_le_mul_of_nonneg_right (by omega) (by omega)
      rw [Int.add_mul] at this
      rw [if_pos (by omega)]
    · by_cases c2 : n > m / k
      · rw [if_neg (by simpa using c1), if_pos (by simpa using c2)]
        have : (m / k + 1) * k ≤ n * k := Int.mul_le_mul_of_nonneg_right (by omega) (by omega)
        rw [Int.add_mul] at this
        rw [if_neg (by omega), if_neg (by omega)]
      · have e : n = m / k := by omega
        rw [if_neg (by simpa using c1), if_neg (by simpa using c2)]
        rw [Int.mul_one, wI (a := n) (by omega) (by omega), Int.sub_self, wI (a := m / k * k) (by omega) (by omega), wI (a := m - m / k * k) (by omega) (by omega), ← e] 
        rw [← e] at e4 h1 kq
        by_cases c3 : m % k = 0
        · rw [if_pos (by have : m - n * k = 0 := by omega
                         rw [this]; decide), if_neg (by omega), if_pos (by omega)]
        · have c4 : ¬ (m - n * k = 0) := by omega
          rw [if_neg (by simp [wI, c4]), if_pos (by decide), if_pos (by omega)]
  simp only [iterC, step]
theorem whole (T : Int) (L : List (Int × Int × Int)) (f : Int) (H : List Bool) (t pc pd : Int) : r7 T L f H t pc pd = some true := by
  unfold r7
  rw [awake, Option.bind_some, if_neg (by simp), p22, Option.bind_some, p37, p33, p33, gS, gS, gS]
  simp only [Option.getD_some]
  by_cases hc : (bothE T L f H != 0 || codeIf (inR t 0 100000) 2 != 0 || !inR pc 1 100 || !inR pd pc 100) = true
  · rw [if_pos hc]
  · rw [if_neg hc]
    have hb : bothE T L f H = 0 := by
      by_cases h : bothE T L f H = 0
      · exact h
      · simp [h] at hc
    have ht : inR t 0 100000 = true := by
      cases h : inR t 0 100000 with
      | true => rfl
      | false => rw [h] at hc; simp [codeIf] at hc
    have hpc : inR pc 1 100 = true := by
      cases h : inR pc 1 100 with
      | true => rfl
      | false => rw [h] at hc; simp at hc
    have hpd : inR pd pc 100 = true := by
      cases h : inR pd pc 100 with
      | true => rfl
      | false => rw [h] at hc; simp at hc
    clear hc
    have ok := ok_of hb
    have hp := ok.lad.pos
    have hle := ok.lad.le
    have ⟨t0, t1⟩ := inR_iff.1 ht
    have ⟨c0, c1⟩ := inR_iff.1 hpc
    have ⟨d0, d1⟩ := inR_iff.1 hpd
    have hpd1 : inR pd 1 100 = true := inR_iff.2 ⟨by omega, d1⟩
    have h100 : inR 100 1 100 = true := by decide
    rw [p19 T L (by omega), Option.bind_some, p20 f H (by have := ok.hot; omega), Option.bind_some, p36, Option.bind_some, p38, Option.bind_some, p39, Option.bind_some, p39, Option.bind_some, p39, Option.bind_some]
    have hb' : ¬ (bothE T L f H ≠ 0) := by simpa using hb
    simp only [if_pos hb, if_neg hb', if_pos ht, if_pos hpc, if_pos hpd1, if_pos h100]
    have h := ok.ladr
    have h1 := ok.lenc.1
    have h4 := ok.lenc.2
    have hcl := condsV_len L
    obtain ⟨p1, p2, p3⟩ := pow_ok h h4
    have ha := all_pos h h1
    have hpp := pow_pos h
    generalize powV (condsV L) (reactV f L H) = P at *
    have a1 := dep_pos pc P.sum P 0 (by omega)
    have a2 := dep_mono (pc := pc) (pd := pd) (all := P.sum) (by omega) d0 P 0
    have a3 := dep_mono (pc := pd) (pd := 100) (all := P.sum) (by omega) d1 P 0
    have a4 := dep_all (all := P.sum) P 0 hpp (by omega)
    have wl := wat_len t P.sum P 0
    have ws := wat_sum t P.sum P 0
    rw [Int.zero_add, Int.mul_zero, Int.zero_ediv, Int.sub_zero, Int.mul_ediv_cancel t (by omega)] at ws
    have wg := wat_get t0 (show 0 < P.sum by omega) P 0 (by omega) p1 (by omega)
    generalize hw : wat t P.sum 0 P = W at *
    have wnn : ∀ w ∈ W, 0 ≤ w := by
      intro w hw
      obtain ⟨i, hi, rfl⟩ := List.getElem_of_mem hw
      have := (wg i (by omega)).1.1
      rwa [List.getD_eq_getElem?_getD, List.getElem?_eq_getElem hi] at this
    rw [if_neg (by simp; omega)]
    refine (iter_run P.length (b7_1 t (P, 0) (W, 0)) (fun i => ((P.take i).sum, (W.take i).sum, (i : Int))) (some true) (by omega) (fun i hi => ?_) ?_)
    · have hiw : i < W.length := by omega
      have g1 := p1 _ (getD_mem hi)
      have s1 := pre_succ P i hi
      have s2 := pre_rng P p1 (i + 1)
      have s2' := pre_rng P p1 i
      have s3 := pre_succ W i hiw
      have s4 := pre_rng W wnn (i + 1)
      have s4' := pre_rng W wnn i
      obtain ⟨⟨w1, w2⟩, _, _⟩ := wg i hi
      simp only [b7_1, ltN hi, if_true, if_pos (rgN hi), Int.toNat_natCast, wS i (by omega), p33, bindC]
      rw [inR_iff.2 ⟨g1, by omega⟩, inR_iff.2 ⟨w1, w2⟩, if_pos (fun _ => rgN hiw), gS, Option.getD_some]
      rw [if_neg (by simp), if_pos (rgN hiw), wI (by omega) (by omega), wI (by omega) (by omega), s1, s3]
      rfl
    · unfold b7_1
      rw [if_neg (by simp)]
      simp only [List.take_length]
      rw [show W.take P.length = W by rw [← wl, List.take_length], ws, if_neg (by simp; omega)]
      congr 1
      refine iter_run P.length (b7_2 t (P, 0) (W, 0) (P.sum, t, (P.length : Int))) (fun i => (i : Int)) (some true) (by omega) (fun i hi => ?_) (by simp [b7_2])
      have hiw : i < W.length := by omega
      have g1 := p1 _ (getD_mem hi)
      have s1 := pre_succ P i hi
      have s2 := pre_rng P p1 (i + 1)
      have s2' := pre_rng P p1 i
      obtain ⟨⟨w1, w2⟩, w3, w4⟩ := wg i hi
      obtain ⟨m1, m2⟩ := mul_rng t0 t1 (s := P.getD i default) (by omega) (by omega)
      have q1 : r40 (IntKind.i64.wrap (W.getD i default - 1)) 1 (IntKind.i64.wrap (t * P.getD i default)) P.sum = some (-1) := by
        rw [wI (a := W.getD i default - 1) (by omega) (by omega), wI (a := t * P.getD i default) (by omega) (by omega), p40 (by omega) (by omega) m1 (by omega) (by omega) (by omega), if_pos w3]
      have q2 : r40 (IntKind.i64.wrap (W.getD i default + 1)) 1 (IntKind.i64.wrap (t * P.getD i default)) P.sum = some 1 := by
        rw [wI (a := W.getD i default + 1) (by omega) (by omega), wI (a := t * P.getD i default) (by omega) (by omega), p40 (by omega) (by omega) m1 (by omega) (by omega) (by omega), if_neg (by omega), if_neg (by omega)]
      simp only [b7_2, ltN hi, if_true, if_pos (rgN hi), if_pos (rgN hiw), Int.toNat_natCast, wS i (by omega), q1, q2, bindC]
      simp [hi, hiw]
end Go.Proofs.Ytagnplbfdaifkaa

/- The numbers of any size: multiplied, divided, their common divisor; fractions. -/
import Derived.Test.YtfmjhllkheapeaaF04
import Derived.Test.YtfmjhllkheapeaaInsC
set_option linter.unusedVariables false
set_option linter.unusedSimpArgs false
namespace Go.Proofs.Ytfmjhllkheapeaa
open Go.Abs

theorem getD_set_ne (l : List Int) {i j : Nat} (v : Int) (h : i ≠ j) : (l.set i v).getD j 0 = l.getD j 0 := by
  rw [List.getD_eq_getElem?_getD, List.getD_eq_getElem?_getD, List.getElem?_set_ne h]
theorem getD_set_eq (l : List Int) {i : Nat} (v : Int) (h : i < l.length) : (l.set i v).getD i 0 = v := by
  rw [List.getD_eq_getElem?_getD, List.getElem?_set_self h]; rfl
theorem mul_bd {a b : Int} (h1 : 0 ≤ a) (h2 : a < 1000000000) (h3 : 0 ≤ b) (h4 : b < 1000000000) : 0 ≤ a * b ∧ a * b ≤ 999999998000000001 := by
  refine ⟨Int.mul_nonneg h1 h3, ?_⟩
  have : a * b ≤ 999999999 * 999999999 := Int.mul_le_mul (by omega) (by omega) h3 (by omega)
  omega
/-- one digit of a times b is added -/
theorem p33_2 {a b o0 : List Int} (s1 : Int × List Int) (i N : Nat) (hi : i < a.length) (h1 : s1 = ((i : Int), o0)) (ha : Dig a) (hb : Dig b) (hN : N = a.length + b.length + 1) (hl : N ≤ 100000000)
    (ho : o0.length = N) (hd : Dig o0) (hz : ∀ j, i + b.length ≤ j → o0.getD j 0 = 0) :
    ∃ o, iterC (b33_2 a b s1) 1000000000 (0, 0, s1.2) = some (.next ((i : Int) + 1, o)) ∧ o.length = N ∧ Dig o ∧ (∀ j, i + 1 + b.length ≤ j → o.getD j 0 = 0) ∧ val o = val o0 + P i * (a.getD i 0 * val b) := by
  subst h1
  refine iter_meas (b33_2 a b ((i : Int), o0)) (fun s => ∃ k : Nat, s.2.1 = k ∧ k ≤ b.length ∧ s.2.2.length = N ∧ Dig s.2.2 ∧ 0 ≤ s.1 ∧ s.1 < 1000000000 ∧ (∀ j, i + b.length ≤ j → s.2.2.getD j 0 = 0) ∧ val s.2.2 + P (i + k) * s.1 = val o0 + P i * (a.getD i 0 * val (b.take k)))
    (fun s => b.length - s.2.1.toNat) (fun r => ∃ o, r = some (.next ((i : Int) + 1, o)) ∧ o.length = N ∧ Dig o ∧ (∀ j, i + 1 + b.length ≤ j → o.getD j 0 = 0) ∧ val o = val o0 + P i * (a.getD i 0 * val b)) (fun s hs => ?_) 1000000000 _ ⟨0, rfl, by omega, ho, hd, Int.le_refl _, (by decide : (0:Int) < 1000000000), hz, by simp [val]⟩ (by simp; omega)
  obtain ⟨c, z, o⟩ := s
  obtain ⟨k, h1, h2, h3, h4, h5, h6, h7, h8⟩ := hs
  simp only at h1 h3 h4 h5 h6 h7 h8
  subst h1
  unfold b33_2
  simp only
  have ea := ha.get i
  have eb := hb.get k
  have eo := h4.get (i + k)
  have w1 : IntKind.i64.wrap ((i : Int) + (k : Int)) = ((i + k : Nat) : Int) := by rw [wI (by omega) (by omega)]; omega
  have w2 : IntKind.i64.wrap ((i : Int) + (b.length : Int)) = ((i + b.length : Nat) : Int) := by rw [wI (by omega) (by omega)]; omega
  rw [w1, w2]
  simp only [Int.toNat_natCast, gD]
  by_cases g : k < b.length
  · left
    rw [if_pos (by simpa using g), if_pos (by omega), if_pos (by omega), if_pos (by omega), if_pos (by omega)]
    have hx := mul_bd ea.1 ea.2 eb.1 eb.2
    generalize hX : a.getD i 0 = x at *
    generalize hY : b.getD k 0 = y at *
    generalize hO : o.getD (i + k) 0 = w at *
    have e0 : IntKind.i64.wrap (x * y) = x * y := wI (by omega) (by omega)
    have e1 : IntKind.i64.wrap (w + x * y) = w + x * y := wI (by omega) (by omega)
    have e2 : IntKind.i64.wrap (w + x * y + c) = w + x * y + c := wI (by omega) (by omega)
    rw [e0, e1, e2]
    have key : w + x * y + c = (w + x * y + c) % 1000000000 + 1000000000 * ((w + x * y + c) / 1000000000) := by omega
    have tm : (w + x * y + c).tmod 1000000000 = (w + x * y + c) % 1000000000 := Int.tmod_eq_emod_of_nonneg (by omega)
    have td : (w + x * y + c).tdiv 1000000000 = (w + x * y + c) / 1000000000 := Int.tdiv_eq_ediv_of_nonneg (by omega)
    rw [tm, td]
    have b1 : 0 ≤ (w + x * y + c) % 1000000000 := by omega
    have b2 : (w + x * y + c) % 1000000000 < 1000000000 := by omega
    have b3 : 0 ≤ (w + x * y + c) / 1000000000 := by omega
    have b4 : (w + x * y + c) / 1000000000 < 1000000000 := by omega
    generalize hu : (w + x * y + c) % 1000000000 = u at *
    generalize hv : (w + x * y + c) / 1000000000 = v at *
    rw [wI (a := v) (by omega) (by omega), wI (a := (k : Int) + 1) (by omega) (by omega)]
    refine ⟨_, rfl, ⟨k + 1, by simp, g, by simpa using h3, h4.set b1 b2, b3, b4, ?_, ?_⟩, ?_⟩
    · intro j hj
      show (o.set (i+k) u).getD j 0 = 0
      rw [getD_set_ne o u (by omega)]; exact h7 j hj
    · show val (o.set (i+k) u) + P (i + (k+1)) * v = _
      rw [val_set o (i+k) u (by omega), hO, val_take, hY, show i + (k+1) = (i+k)+1 by omega, P_succ]
      have e : val o + P (i+k) * (u - w) + 1000000000 * P (i+k) * v = val o + P (i+k) * c + P (i+k) * (x * y) := by
        have : P (i+k) * (w + x * y + c) = P (i+k) * (u + 1000000000 * v) := by rw [key]
        grind
      rw [e, h8, P_add]; grind
    · show b.length - ((k:Int)+1).toNat < b.length - (k:Int).toNat
      omega
  · right
    have hk : k = b.length := by omega
    rw [if_neg (by simpa using g), if_pos (by omega), if_pos (by omega), h7 (i + b.length) (by omega), wI (a := 0 + c) (by omega) (by omega), wI (a := (i : Int) + 1) (by omega) (by omega), Int.zero_add]
    refine ⟨_, rfl, _, rfl, by simpa using h3, h4.set h5 h6, ?_, ?_⟩
    · intro j hj
      rw [getD_set_ne o c (by omega)]; exact h7 j (by omega)
    · rw [val_set o _ c (by omega), h7 (i + b.length) (by omega), Int.sub_zero]
      rw [hk, List.take_length] at h8
      exact h8
theorem p33_0 {a b : List Int} (s t : Int) (ha : Dig a) (hb : Dig b) (hl : a.length + b.length + 1 ≤ 100000000) (hs : -1 ≤ s * t) (ht : s * t ≤ 1) : ∃ o, Dig o ∧ o.length = a.length + b.length + 1 ∧ val o = val a * val b ∧ r33 s a t b = some (wV (s * t) o) := by
  unfold r33
  have w0 : IntKind.i64.wrap (IntKind.i64.wrap ((a.length : Int) + (b.length : Int)) + 1) = ((a.length + b.length + 1 : Nat) : Int) := by
    rw [wI (a := (a.length : Int) + (b.length : Int)) (by omega) (by omega), wI (by omega) (by omega)]; omega
  rw [w0, if_pos (by omega), Int.toNat_natCast]
  generalize hN : a.length + b.length + 1 = N at *
  refine iter_meas (b33_1 s a t b) (fun x => ∃ i : Nat, x.1 = i ∧ i ≤ a.length ∧ x.2.length = N ∧ Dig x.2 ∧ (∀ j, i + b.length ≤ j → x.2.getD j 0 = 0) ∧ val x.2 = val (a.take i) * val b)
    (fun x => a.length - x.1.toNat) (fun r => ∃ o, Dig o ∧ o.length = N ∧ val o = val a * val b ∧ r = some (wV (s * t) o)) (fun x hx => ?_) 1000000000 _ ⟨0, rfl, by omega, by simp, Dig.zeros N, fun j _ => ?_, by simp [val_zeros, val]⟩ (by simp; omega)
  · obtain ⟨z, o⟩ := x
    obtain ⟨i, h1, h2, h3, h4, h5, h6⟩ := hx
    simp only at h1 h3 h4 h5 h6
    subst h1
    unfold b33_1
    simp only
    by_cases g : i < a.length
    · left
      obtain ⟨o', k1, k2, k3, k4, k5⟩ := p33_2 ((i : Int), o) i N g rfl ha hb hN.symm hl h3 h4 h5
      rw [if_pos (by simpa using g), k1, Option.getD_some]
      refine ⟨_, rfl, ⟨i + 1, by simp, g, k2, k3, k4, ?_⟩, ?_⟩
      · show val o' = _
        rw [k5, h6, val_take]; grind
      · show a.length - ((i:Int)+1).toNat < a.length - (i:Int).toNat
        omega
    · right
      refine ⟨_, if_neg (by simpa using g), o, h4, h3, ?_, ?_⟩
      · rw [h6, List.take_of_length_le (by omega)]
      · rw [wI (by omega) (by omega), p46 _ o (by omega), Option.bind_some]
  · show (List.replicate N (0:Int)).getD j 0 = 0
    rw [List.getD_eq_getElem?_getD, List.getElem?_replicate]; split <;> rfl
theorem sgn_bd (z : Int) : -1 ≤ z.sign ∧ z.sign ≤ 1 := by
  rcases Int.lt_trichotomy z 0 with g | g | g
  · rw [sgn_neg g]; omega
  · subst g; decide
  · rw [sgn_pos g]; omega
theorem p33 {x y : Int} (hx : ln x ≤ 10000000) (hy : ln y ≤ 10000000) : r33 (W x).1 (W x).2 (W y).1 (W y).2 = some (W (x * y)) := by
  have hlx : (W x).2.length ≤ 10000000 := hx
  have hly : (W y).2.length ≤ 10000000 := hy
  have hs := sgn_bd (x * y)
  rw [Int.sign_mul] at hs
  obtain ⟨o, h1, h2, h3, h4⟩ := p33_0 (W x).1 (W y).1 (can_W x).1 (can_W y).1 (by omega) hs.1 hs.2
  rw [h4]
  refine congrArg some (wV_sign h1 ?_ (.inr (by rw [W_sign, W_sign, Int.sign_mul])))
  rw [h3, val_W, val_W, Int.natAbs_mul, ← Int.natCast_mul, Int.toNat_natCast]

theorem W_neg1 (z : Int) : W (-z) = (-(W z).1, (W z).2) := by rw [W, W, Int.sign_neg, Int.natAbs_neg]
theorem p48 (z : Int) : r48 (W z).1 (W z).2 = some (W (-z)) := by
  have := sgn_bd z
  rw [r48, W_neg1, W_sign, wI (by omega) (by omega), Int.zero_sub]
theorem ln_neg (z : Int) : ln (-z) = ln z := by rw [ln, ln, Int.natAbs_neg]
theorem p54 {x y : Int} (hx : ln x ≤ 100000000) (hy : ln y ≤ 100000000) : r54 (W x).1 (W x).2 (W y).1 (W y).2 = some (W (x - y)) := by
  rw [r54, p48, Option.bind_some, p32 hx (by rw [ln_neg]; exact hy), Option.bind_some, Int.sub_eq_add_neg]
theorem p34 {x y : Int} (hx : ln x ≤ 100000000) (hy : ln y ≤ 100000000) : r34 (W x).1 (W x).2 (W y).1 (W y).2 = some (x - y).sign := by
  rw [r34, p54 hx hy, Option.bind_some, W_sign]
theorem p60 {z : Int} (h : 0 ≤ z) : r60 (W z).1 (W z).2 = some (W z) := by
  rw [r60, if_neg (by rw [W_sign]; simpa using Int.sign_nonneg_iff.mpr h)]
theorem ln_mono {x y : Int} (h : x.natAbs ≤ y.natAbs) : ln x ≤ ln y := len_mono h
theorem ln_small {m : Int} (h0 : 0 ≤ m) (h : m < 1000000000) : ln m ≤ 1 := len_digs (by show ((m.natAbs : Nat) : Int) < 1000000000; omega)
theorem wV_W {b : Int} (hb : 0 < b) : wV 1 (W b).2 = W b := by
  rw [wV_one (can_W b).1, val_W, show ((b.natAbs : Nat) : Int) = b by omega]
/-- the greatest digit whose product is at most what is left -/
theorem p50_2 {b T : Int} {q : List Int} (s1 : List Int × Int × List Int) (i : Nat) (hb : 0 < b) (hlb : ln b ≤ 1000000) (hT : 0 ≤ T) (hTb : T < 1000000000 * b) (hlT : ln T ≤ 1000001)
    (h1 : s1.2.1 = (i : Int)) (h2 : s1.2.2 = q) (hi : i < q.length) (hq : q.length ≤ 1000000) :
    ∃ m : Int, 0 ≤ m ∧ m < 1000000000 ∧ b * m ≤ T ∧ T < b * (m + 1) ∧ iterC (b50_2 (W b).2 s1 (digs T.toNat)) 1000000000 (0, 999999999) = some (.next (digs (T - b * m).toNat, (i : Int) - 1, q.set i m)) := by
  have hW : digs T.toNat = (W T).2 := by rw [W, show T.natAbs = T.toNat by omega]
  have hlT' : (W T).2.length ≤ 1000001 := hlT
  have hlb' : (W b).2.length ≤ 1000000 := hlb
  rw [hW]
  have hmul : ∀ m : Int, 0 ≤ m → m < 1000000000 → (bindC (r46 1 (W b).2) fun v2 => bindC (r30 m) fun v3 => bindC (r33 v2.1 v2.2 v3.1 v3.2) fun v4 => (Ctl.next v4 : Ctl (Int × List Int) Unit)) = .next (W (b * m)) := by
    intro m h0 h1
    rw [p46 1 _ (by omega), wV_W hb, p30 h0 (by omega)]
    simp only [bindC]
    rw [p33 (by omega) (by have := ln_small h0 h1; omega)]
  have hmu : ∀ m : Int, 0 ≤ m → m < 1000000000 → ∀ {σ ρ : Type} (f : Int × List Int → Ctl σ ρ), (bindC (r46 1 (W b).2) fun v2 => bindC (r30 m) fun v3 => bindC (r33 v2.1 v2.2 v3.1 v3.2) f) = f (W (b * m)) := by
    intro m h0 h1 σ ρ f
    rw [p46 1 _ (by omega), wV_W hb, p30 h0 (by omega)]
    simp only [bindC]
    rw [p33 (by omega) (by have := ln_small h0 h1; omega)]
  have hlen : ∀ m : Int, 0 ≤ m → m < 1000000000 → (W (b * m)).2.length ≤ 1000001 + 10 := by
    intro m h0 h1
    have : b * m ≤ b * 1000000000 := Int.mul_le_mul_of_nonneg_left (by omega) (by omega)
    have e : 0 ≤ b * m := Int.mul_nonneg (by omega) h0
    have h3 : ln (b * m) ≤ ln (b * 1000000000) := ln_mono (by omega)
    have h4 : ln (b * 1000000000) ≤ 1000001 := by
      rw [ln, show (b * 1000000000).natAbs = b.natAbs * 1000000000 by omega]
      have : digs (b.natAbs * 1000000000) = 0 :: digs b.natAbs := by
        rw [digs_pos (by omega), show b.natAbs * 1000000000 % 1000000000 = 0 by omega, show b.natAbs * 1000000000 / 1000000000 = b.natAbs by omega]; rfl
      rw [this, List.length_cons]
      have : (digs b.natAbs).length ≤ 1000000 := hlb
      omega
    have : (W (b * m)).2.length = ln (b * m) := rfl
    omega
  refine iter_meas (b50_2 (W b).2 s1 (W T).2) (fun s => 0 ≤ s.1 ∧ s.1 ≤ s.2 ∧ s.2 < 1000000000 ∧ b * s.1 ≤ T ∧ T < b * (s.2 + 1)) (fun s => (s.2 - s.1).toNat) (fun r => ∃ m : Int, 0 ≤ m ∧ m < 1000000000 ∧ b * m ≤ T ∧ T < b * (m + 1) ∧ r = some (.next (digs (T - b * m).toNat, (i : Int) - 1, q.set i m))) (fun s hs => ?_) 1000000000 (0, 999999999) ⟨Int.le_refl _, by decide, by decide, by simpa using hT, by show T < b * (999999999 + 1); omega⟩ (by decide)
  obtain ⟨lo, hi'⟩ := s
  obtain ⟨k1, k2, k3, k4, k5⟩ := hs
  simp only at k1 k2 k3 k4 k5
  unfold b50_2
  simp only
  by_cases g : lo < hi'
  · left
    have e1 : IntKind.i64.wrap ((IntKind.i64.wrap ((IntKind.i64.wrap (lo + hi')) + 1)).tdiv 2) = (lo + hi' + 1) / 2 := by
      rw [wI (a := lo + hi') (by omega) (by omega), wI (a := lo + hi' + 1) (by omega) (by omega), Int.tdiv_eq_ediv_of_nonneg (by omega), wI (by omega) (by omega)]
    rw [if_pos (by simpa using g), e1]
    have m1 : lo < (lo + hi' + 1) / 2 := by omega
    have m2 : (lo + hi' + 1) / 2 ≤ hi' := by omega
    generalize (lo + hi' + 1) / 2 = m at m1 m2 ⊢
    have hc := p52 (can_W (b * m)) (can_W T) (by have := hlen m (by omega) (by omega); omega) (by omega)
    have hbm : 0 ≤ b * m := Int.mul_nonneg (by omega) (by omega)
    rw [val_W, val_W, show (((b * m).natAbs : Nat) : Int) = b * m by omega, show ((T.natAbs : Nat) : Int) = T by omega] at hc
    rw [hmu m (by omega) (by omega), hc]
    simp only [bindC]
    by_cases g2 : b * m ≤ T
    · refine ⟨(m, hi'), ?_, ⟨by omega, m2, k3, g2, k5⟩, by show (hi' - m).toNat < (hi' - lo).toNat; omega⟩
      refine if_pos ?_
      have : (b * m - T).sign ≤ 0 := Int.sign_nonpos_iff.mpr (by omega)
      simpa using this
    · refine ⟨(lo, m - 1), ?_, ⟨k1, by omega, by omega, k4, ?_⟩, by show (m - 1 - lo).toNat < (hi' - lo).toNat; omega⟩
      · rw [wI (a := m - 1) (by omega) (by omega)]
        refine if_neg ?_
        rw [sgn_pos (by omega)]; decide
      · show T < b * (m - 1 + 1)
        rw [show m - 1 + 1 = m by omega]; omega
  · right
    obtain rfl : lo = hi' := by omega
    have hbm : 0 ≤ b * lo := Int.mul_nonneg (by omega) (by omega)
    have hsub := p53 (can_W T).1 (can_W (b * lo)).1 (by omega) (by have := ln_mono (x := b * lo) (y := T) (by omega); exact this) (by rw [val_W, val_W]; omega)
    rw [val_W, val_W, show (((b * lo).natAbs : Nat) : Int) = b * lo by omega, show ((T.natAbs : Nat) : Int) = T by omega] at hsub
    rw [if_neg (by simp), h1, h2, if_pos (by omega), hmu lo (by omega) (by omega), hsub]
    simp only [bindC, Int.toNat_natCast]
    rw [wI (by omega) (by omega)]
    exact ⟨_, rfl, lo, k1, k3, k4, k5, rfl⟩
end Go.Proofs.Ytfmjhllkheapeaa

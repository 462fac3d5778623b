/- The numbers of any size: quotients, the greatest common divisor, fractions. -/
import Derived.Test.YtfmjhllkheapeaaF04
import Derived.Test.YtfmjhllkheapeaaInsD
set_option linter.unusedVariables false
set_option linter.unusedSimpArgs false
namespace Go.Proofs.Ytfmjhllkheapeaa
open Go.Abs

theorem digs_cons {d : Int} {R : Int} (h1 : 0 ≤ d) (h2 : d < 1000000000) (hR : 0 ≤ R) : trim (d :: digs R.toNat) = digs (d + 1000000000 * R).toNat := by
  rw [trim_digs (Dig.cons h1 h2 (dig_digs _)), val, val_digs, show ((R.toNat : Nat) : Int) = R by omega]
theorem div_of {a b q r : Int} (hb : 0 < b) (h : a = q * b + r) (h1 : 0 ≤ r) (h2 : r < b) : a / b = q := by
  have := (Int.ediv_emod_unique (a := a) (r := r) (q := q) hb).mpr ⟨by rw [h, Int.mul_comm]; omega, h1, h2⟩
  exact this.1
theorem p50 {a b : Int} (ha : 0 ≤ a) (hb : 0 < b) (hla : ln a ≤ 1000000) (hlb : ln b ≤ 1000000) : r50 (W a).1 (W a).2 (W b).1 (W b).2 = some (W (a / b)) := by
  unfold r50
  by_cases a0 : a = 0
  · subst a0; rw [if_pos (by rfl), Int.zero_ediv, W_zero]
  have hla' : (W a).2.length ≤ 1000000 := hla
  rw [if_neg (by rw [W_sign]; simpa using a0), if_pos (by omega), Int.toNat_natCast]
  have sa : (W a).1 = 1 := by rw [W_sign, sgn_pos (by omega)]
  rw [sa]
  have hv : val (W a).2 = a := by rw [val_W]; omega
  have hd := (can_W a).1
  generalize (W a).2 = A at *
  refine iter_meas (b50_1 1 A (W b).2) (fun s => ∃ (n : Nat) (R : Int), s.2.1 = (n : Int) - 1 ∧ n ≤ A.length ∧ s.1 = digs R.toNat ∧ 0 ≤ R ∧ R < b ∧ s.2.2.length = A.length ∧ Dig s.2.2 ∧ val (A.drop n) = val (s.2.2.drop n) * b + R)
    (fun s => (s.2.1 + 1).toNat) (fun o => o = some (W (a / b))) (fun s hs => ?_) 1000000000 _ ⟨A.length, 0, wI (by omega) (by omega), Nat.le_refl _, by rw [show Int.toNat 0 = 0 from rfl, digs_zero], Int.le_refl _, hb, by simp, Dig.zeros _, ?_⟩ ?_
  · obtain ⟨l, z, q⟩ := s
    obtain ⟨n, R, h1, h2, h3, h4, h5, h6, h7, h8⟩ := hs
    simp only at h1 h3 h6 h7 h8
    subst h1
    subst h3
    have hlR : (digs R.toNat).length ≤ 1000000 := by
      have := len_mono (show R.toNat ≤ b.natAbs by omega)
      have : (digs b.natAbs).length ≤ 1000000 := hlb
      omega
    unfold b50_1
    simp only
    cases n with
    | zero =>
      right
      rw [List.drop_zero, List.drop_zero, hv] at h8
      refine ⟨_, if_neg (by simp), ?_⟩
      have e : a / b = val q := div_of hb h8 h4 h5
      rw [p46 1 q (by omega), Option.bind_some, if_neg (by simp), wV_one h7, e]
    | succ n =>
      left
      have e1 : ((n + 1 : Nat) : Int) - 1 = (n : Int) := by omega
      have hA := hd.get n
      rw [e1, Int.toNat_natCast, gD, if_pos (by simp), if_pos (by omega), if_pos (by omega), p59 _ (by simp; omega), digs_cons hA.1 hA.2 h4]
      simp only [bindC]
      have hT : 0 ≤ A.getD n 0 + 1000000000 * R := by omega
      have hlT : ln (A.getD n 0 + 1000000000 * R) ≤ 1000001 := by
        rw [ln]
        by_cases e : A.getD n 0 + 1000000000 * R = 0
        · rw [e, show (0 : Int).natAbs = 0 from rfl, digs_zero]; simp
        · rw [len_step (by omega), show (A.getD n 0 + 1000000000 * R).natAbs / 1000000000 = R.toNat by omega]; omega
      obtain ⟨m, m1, m2, m3, m4, m5⟩ := p50_2 (b := b) (T := A.getD n 0 + 1000000000 * R) (q := q) (digs R.toNat, (n : Int), q) n hb hlb hT (by omega) hlT rfl rfl (by omega) (by omega)
      rw [m5, Option.getD_some]
      have hdr : b * (m + 1) = b * m + b := by rw [Int.mul_add, Int.mul_one]
      refine ⟨_, rfl, ⟨n, A.getD n 0 + 1000000000 * R - b * m, rfl, by omega, rfl, by omega, by omega, by simpa using h6, h7.set m1 m2, ?_⟩, ?_⟩
      · show val (A.drop n) = val ((q.set n m).drop n) * b + _
        rw [val_drop A (by omega), val_drop (q.set n m) (by simp; omega), getD_set_eq q m (by omega), List.drop_set_of_lt (by omega), h8]; grind
      · show ((n : Int) - 1 + 1).toNat < ((n : Int) + 1).toNat
        omega
  · show val (A.drop A.length) = val ((List.replicate A.length (0:Int)).drop A.length) * b + 0
    rw [List.drop_length, List.drop_of_length_le (by simp)]; simp [val]
  · show (IntKind.i64.wrap ((A.length : Int) - 1) + 1).toNat < 1000000000
    rw [wI (by omega) (by omega)]; omega

/-- how long Euclid goes on -/
def eM (a b : Nat) : Nat := (a * b).log2 + (if a < b then 1 else 0) + (if b = 0 then 0 else 1)
theorem log2_half {a b : Nat} (h : 0 < a) (h2 : 2 * a ≤ b) : a.log2 + 1 ≤ b.log2 := by
  have h3 : b ≠ 0 := by omega
  have h4 : 2 ^ a.log2 ≤ a := (Nat.le_log2 (by omega)).mp (Nat.le_refl _)
  refine (Nat.le_log2 h3).mpr ?_
  rw [Nat.pow_succ]; omega
theorem eM_step {a b : Nat} (hb : 0 < b) : eM b (a % b) < eM a b := by
  unfold eM
  have hm := Nat.mod_lt a hb
  by_cases g : a < b
  · rw [Nat.mod_eq_of_lt g, if_neg (by omega), if_pos g, if_neg (show ¬ b = 0 by omega), Nat.mul_comm b a]
    split <;> omega
  · rw [if_neg (by omega), if_neg g, if_neg (show ¬ b = 0 by omega)]
    by_cases e : a % b = 0
    · rw [e, Nat.mul_zero, if_pos rfl]
      show Nat.log2 0 + 0 + 0 < _
      rw [show Nat.log2 0 = 0 by decide]; omega
    · rw [if_neg e]
      have h2 : 2 * (a % b) ≤ a := by
        have h3 := Nat.div_add_mod a b
        have h4 : 1 ≤ a / b := Nat.div_pos (by omega) hb
        have h5 : b * 1 ≤ b * (a / b) := Nat.mul_le_mul_left b h4
        omega
      have h6 : 2 * (b * (a % b)) ≤ a * b := by
        have := Nat.mul_le_mul_left b h2
        have e : b * (2 * (a % b)) = 2 * (b * (a % b)) := by rw [Nat.mul_left_comm]
        rw [e, Nat.mul_comm b a] at this; exact this
      have := log2_half (Nat.mul_pos hb (show 0 < a % b by omega)) h6
      omega
theorem p49 {a b : Nat} (hla : ln (a : Int) ≤ 1000000) (hlb : ln (b : Int) ≤ 1000000) (hM : eM a b < 1000000000) : r49 (W a).1 (W a).2 (W b).1 (W b).2 = some (W (Nat.gcd a b : Nat)) := by
  unfold r49
  rw [p60 (by omega), Option.bind_some, p60 (by omega), Option.bind_some]
  refine iter_meas b49_1 (fun s => ∃ x y : Nat, s = ((W x).1, (W x).2, (W y).1, (W y).2) ∧ Nat.gcd x y = Nat.gcd a b ∧ ln (x : Int) ≤ 1000000 ∧ ln (y : Int) ≤ 1000000) (fun s => eM (val s.2.1).toNat (val s.2.2.2).toNat) (fun o => o = some (W (Nat.gcd a b : Nat))) (fun s hs => ?_) 1000000000 _ ⟨a, b, rfl, rfl, hla, hlb⟩ ?_
  · obtain ⟨x, y, rfl, h1, h2, h3⟩ := hs
    unfold b49_1
    simp only [r47, bindC]
    by_cases e : y = 0
    · right
      subst e
      refine ⟨_, if_neg (by rw [W_sign]; simp), ?_⟩
      rw [Nat.gcd_zero_right] at h1
      rw [← h1]
    · left
      have hy : (0 : Int) < y := by omega
      have hq : ((x : Int) / y) * y ≤ x := by
        have h9 := Int.emod_nonneg (x : Int) (show (y : Int) ≠ 0 by omega)
        have h8 := Int.mul_ediv_add_emod (x : Int) y
        rw [Int.mul_comm]; omega
      have hq0 : 0 ≤ (x : Int) / y := Int.ediv_nonneg (by omega) (by omega)
      have hqx : (x : Int) / y ≤ x := Int.ediv_le_self _ (by omega)
      have l1 : ln ((x : Int) / y) ≤ 1000000 := Nat.le_trans (ln_mono (by omega)) h2
      have hqq : 0 ≤ ((x : Int) / y) * y := Int.mul_nonneg hq0 (by omega)
      have l2 : ln (((x : Int) / y) * y) ≤ 1000000 := Nat.le_trans (ln_mono (by omega)) h2
      have er : (x : Int) - (x : Int) / y * y = ((x % y : Nat) : Int) := by
        have h8 := Int.mul_ediv_add_emod (x : Int) y
        rw [Int.natCast_emod]
        rw [Int.mul_comm] at h8; omega
      have hm := Nat.mod_lt x (show 0 < y by omega)
      refine ⟨((W y).1, (W y).2, (W (x % y : Nat)).1, (W (x % y : Nat)).2), ?_, ⟨y, x % y, rfl, ?_, h3, Nat.le_trans (ln_mono (by omega)) h3⟩, ?_⟩
      · rw [if_pos (by rw [W_sign, sgn_pos hy]; decide), p50 (by omega) hy h2 h3]
        simp only [bindC]
        rw [p33 (by omega) (by omega)]
        simp only [bindC]
        rw [p54 (by omega) (by omega)]
        simp only [bindC]
        rw [er]
      · rw [Nat.gcd_comm, ← Nat.gcd_rec, Nat.gcd_comm]; exact h1
      · show eM (val (W y).2).toNat (val (W (x % y : Nat)).2).toNat < eM (val (W x).2).toNat (val (W y).2).toNat
        rw [val_W, val_W, val_W]
        simp only [Int.natAbs_natCast, Int.toNat_natCast]
        exact eM_step (by omega)
  · show eM (val (W a).2).toNat (val (W b).2).toNat < 1000000000
    rw [val_W, val_W]
    simpa using hM

/-- numbers that are not too large here -/
def Sm (z : Int) : Prop := -1000000000000000000000000000000000000000000000000000000000000 ≤ z ∧ z ≤ 1000000000000000000000000000000000000000000000000000000000000
theorem Sm.ln {z : Int} (h : Sm z) : ln z ≤ 7 := by
  refine len_digs ?_
  show ((z.natAbs : Nat) : Int) < 1000000000000000000000000000000000000000000000000000000000000000
  have h1 := h.1; have h2 := h.2
  omega
theorem log2_mul {a b : Nat} (h : a * b ≠ 0) : (a * b).log2 < a.log2 + 1 + (b.log2 + 1) := by
  refine (Nat.log2_lt h).mpr ?_
  have ha : a ≠ 0 := fun e => h (by rw [e, Nat.zero_mul])
  have hb : b ≠ 0 := fun e => h (by rw [e, Nat.mul_zero])
  have h1 : a < 2 ^ (a.log2 + 1) := (Nat.log2_lt ha).mp (Nat.lt_succ_self _)
  have h2 : b < 2 ^ (b.log2 + 1) := (Nat.log2_lt hb).mp (Nat.lt_succ_self _)
  rw [Nat.pow_add]
  exact Nat.mul_lt_mul'' h1 h2
theorem log2_small {a : Nat} (ha : Sm (a : Int)) : a.log2 < 200 := by
  by_cases e : a = 0
  · rw [e]; decide
  · refine (Nat.log2_lt e).mpr ?_
    have := ha.2
    have e : (2:Nat)^200 = 1606938044258990275541962092341162602522202993782792835301376 := by decide
    rw [e]; omega
theorem eM_small {a b : Nat} (ha : Sm (a : Int)) (hb : Sm (b : Int)) : eM a b < 1000000000 := by
  have h1 : (a * b).log2 < 500 := by
    by_cases e : a * b = 0
    · rw [e]; decide
    · have := log2_mul e; have := log2_small ha; have := log2_small hb; omega
  unfold eM
  split <;> split <;> omega
/-- a fraction in lowest terms -/
def RatIs (q : Int × List Int × Int × List Int) (n d : Nat) : Prop := ∃ n' d' : Nat, q = ((W n').1, (W n').2, (W d').1, (W d').2) ∧ 0 < d' ∧ n' * d = n * d' ∧ n' ≤ n ∧ d' ≤ d
theorem p31 {n d : Nat} (hd : 0 < d) (hn : Sm (n : Int)) (hs : Sm (d : Int)) : ∃ q, r31 (W n).1 (W n).2 (W d).1 (W d).2 = some q ∧ RatIs q n d := by
  unfold r31
  have ln1 := hn.ln
  have ln2 := hs.ln
  have hg : 0 < Nat.gcd n d := Nat.gcd_pos_of_pos_right n hd
  have hgd : Nat.gcd n d ≤ d := Nat.gcd_le_right n hd
  have lg : ln ((Nat.gcd n d : Nat) : Int) ≤ 7 := Nat.le_trans (ln_mono (by omega)) ln2
  rw [r47, Option.bind_some, if_neg (by rw [W_sign, sgn_pos (by omega)]; decide), p49 (by omega) (by omega) (eM_small hn hs), Option.bind_some, p30 (by decide) (by decide), Option.bind_some, p34 (by omega) (by have := ln_small (show (0:Int) ≤ 1 by decide) (by decide); omega), Option.bind_some]
  by_cases e : Nat.gcd n d = 1
  · rw [e, if_pos (by decide)]
    exact ⟨_, rfl, n, d, rfl, hd, rfl, Nat.le_refl _, Nat.le_refl _⟩
  · rw [if_neg (by rw [sgn_pos (by omega)]; decide), p50 (by omega) (by omega) (by omega) (by omega), Option.bind_some, p50 (by omega) (by omega) (by omega) (by omega), Option.bind_some]
    obtain ⟨x, hx⟩ := Nat.gcd_dvd_left n d
    obtain ⟨y, hy⟩ := Nat.gcd_dvd_right n d
    generalize hG : Nat.gcd n d = g at *
    have ex : (n : Int) / (g : Int) = ((x : Nat) : Int) := by rw [← Int.natCast_ediv, hx, Nat.mul_div_cancel_left _ hg]
    have ey : (d : Int) / (g : Int) = ((y : Nat) : Int) := by rw [← Int.natCast_ediv, hy, Nat.mul_div_cancel_left _ hg]
    rw [ex, ey]
    refine ⟨_, rfl, x, y, rfl, ?_, ?_, ?_, ?_⟩
    · refine Nat.pos_of_ne_zero fun h => ?_
      subst h; omega
    · rw [hx, hy]; simp only [Nat.mul_left_comm, Nat.mul_comm, Nat.mul_assoc]
    · rw [hx]; exact Nat.le_mul_of_pos_left x hg
    · rw [hy]; exact Nat.le_mul_of_pos_left y hg
theorem p14 {n d : Nat} (hd : 0 < d) (h1 : n ≤ 1000000000) (h2 : d ≤ 1000000000) : ∃ q, r14 n d = some q ∧ RatIs q n d := by
  obtain ⟨q, e, h⟩ := p31 (n := n) (d := d) hd ⟨by omega, by omega⟩ ⟨by omega, by omega⟩
  refine ⟨q, ?_, h⟩
  rw [r14, p30 (by omega) (by omega), Option.bind_some, p30 (by omega) (by omega), Option.bind_some, e]; rfl
theorem p15 {n d : Nat} (hd : 0 < d) (h1 : n ≤ 1000000000) (h2 : d ≤ 1000000000) : ∃ q, r15 n d = some q ∧ RatIs q n d := by
  obtain ⟨q, e, h⟩ := p14 hd h1 h2
  exact ⟨q, by rw [r15, e]; rfl, h⟩
theorem p11 (n : Nat) (h : n ≤ 1000000000) : ∃ q, r11 n = some q ∧ RatIs q n 1 := by
  refine ⟨((W n).1, (W n).2, (W (1 : Nat)).1, (W (1 : Nat)).2), ?_, n, 1, rfl, by decide, rfl, Nat.le_refl _, Nat.le_refl _⟩
  rw [r11, p30 (by omega) (by omega), Option.bind_some, p30 (by decide) (by decide), Option.bind_some]; rfl
theorem sm_of {a b : Nat} {A B : Nat} (h1 : a ≤ A) (h2 : b ≤ B) (h : A * B ≤ 1000000000000000000000000000000000000000000000000000000000000) : Sm ((a * b : Nat) : Int) := by
  have := Nat.mul_le_mul h1 h2
  exact ⟨by omega, by omega⟩
theorem cross_mul {n' d n d' m' e m e' : Nat} (h : n' * d = n * d') (k : m' * e = m * e') : (n' * m') * (d * e) = (n * m) * (d' * e') := by
  have : (n' * d) * (m' * e) = (n * d') * (m * e') := by rw [h, k]
  grind
theorem p13 {q t : Int × List Int × Int × List Int} {n d m e : Nat} (hq : RatIs q n d) (ht : RatIs t m e) (b1 : n * m ≤ 1000000000000000000000000000000000000000000000000000000000000) (b2 : d * e ≤ 1000000000000000000000000000000000000000000000000000000000000) (s1 : Sm (n : Int)) (s2 : Sm (d : Int)) (s3 : Sm (m : Int)) (s4 : Sm (e : Int)) :
    ∃ z, r13 q.1 q.2.1 q.2.2.1 q.2.2.2 t.1 t.2.1 t.2.2.1 t.2.2.2 = some z ∧ RatIs z (n * m) (d * e) := by
  obtain ⟨n', d', rfl, h1, h2, h3, h4⟩ := hq
  obtain ⟨m', e', rfl, k1, k2, k3, k4⟩ := ht
  have l1 : ln (n' : Int) ≤ 7 := Nat.le_trans (ln_mono (by omega)) s1.ln
  have l2 : ln (d' : Int) ≤ 7 := Nat.le_trans (ln_mono (by omega)) s2.ln
  have l3 : ln (m' : Int) ≤ 7 := Nat.le_trans (ln_mono (by omega)) s3.ln
  have l4 : ln (e' : Int) ≤ 7 := Nat.le_trans (ln_mono (by omega)) s4.ln
  obtain ⟨z, hz, x, y, rfl, z1, z2, z3, z4⟩ := p31 (n := n' * m') (d := d' * e') (Nat.mul_pos h1 k1) (sm_of h3 k3 b1) (sm_of h4 k4 b2)
  refine ⟨_, ?_, x, y, rfl, z1, ?_, Nat.le_trans z3 (Nat.mul_le_mul h3 k3), Nat.le_trans z4 (Nat.mul_le_mul h4 k4)⟩
  · rw [r13, p33 (by omega) (by omega), Option.bind_some, p33 (by omega) (by omega), Option.bind_some, ← Int.natCast_mul, ← Int.natCast_mul, hz]; rfl
  · have := cross_mul h2 k2
    have hp : 0 < d' * e' := Nat.mul_pos h1 k1
    refine Nat.eq_of_mul_eq_mul_right hp ?_
    have e1 : x * (d * e) * (d' * e') = (x * (d' * e')) * (d * e) := by grind
    rw [e1, z2]
    have e2 : n' * m' * y * (d * e) = (n' * m' * (d * e)) * y := by grind
    rw [e2, this]; grind
theorem p12 {q t : Int × List Int × Int × List Int} {n d m e : Nat} (hq : RatIs q n d) (ht : RatIs t m e) (b1 : n * e + m * d ≤ 1000000000000000000000000000000000000000000000000000000000000) (b2 : d * e ≤ 1000000000000000000000000000000000000000000000000000000000000) (s1 : Sm (n : Int)) (s2 : Sm (d : Int)) (s3 : Sm (m : Int)) (s4 : Sm (e : Int)) :
    ∃ z, r12 q.1 q.2.1 q.2.2.1 q.2.2.2 t.1 t.2.1 t.2.2.1 t.2.2.2 = some z ∧ RatIs z (n * e + m * d) (d * e) := by
  obtain ⟨n', d', rfl, h1, h2, h3, h4⟩ := hq
  obtain ⟨m', e', rfl, k1, k2, k3, k4⟩ := ht
  have l1 : ln (n' : Int) ≤ 7 := Nat.le_trans (ln_mono (by omega)) s1.ln
  have l2 : ln (d' : Int) ≤ 7 := Nat.le_trans (ln_mono (by omega)) s2.ln
  have l3 : ln (m' : Int) ≤ 7 := Nat.le_trans (ln_mono (by omega)) s3.ln
  have l4 : ln (e' : Int) ≤ 7 := Nat.le_trans (ln_mono (by omega)) s4.ln
  have c1 : n' * e' ≤ n * e := Nat.mul_le_mul h3 k4
  have c2 : m' * d' ≤ m * d := Nat.mul_le_mul k3 h4
  have c3 : d' * e' ≤ d * e := Nat.mul_le_mul h4 k4
  have l5 : ln ((n' * e' : Nat) : Int) ≤ 7 := Sm.ln ⟨by omega, by omega⟩
  have l6 : ln ((m' * d' : Nat) : Int) ≤ 7 := Sm.ln ⟨by omega, by omega⟩
  obtain ⟨z, hz, x, y, rfl, z1, z2, z3, z4⟩ := p31 (n := n' * e' + m' * d') (d := d' * e') (Nat.mul_pos h1 k1) ⟨by omega, by omega⟩ ⟨by omega, by omega⟩
  refine ⟨_, ?_, x, y, rfl, z1, ?_, by omega, by omega⟩
  · rw [r12, p33 (by omega) (by omega), Option.bind_some, p33 (by omega) (by omega), Option.bind_some, ← Int.natCast_mul, ← Int.natCast_mul, p32 (by omega) (by omega), Option.bind_some, p33 (by omega) (by omega), Option.bind_some, ← Int.natCast_add, ← Int.natCast_mul, hz]; rfl
  · have hp : 0 < d' * e' := Nat.mul_pos h1 k1
    refine Nat.eq_of_mul_eq_mul_right hp ?_
    have e1 : x * (d * e) * (d' * e') = (x * (d' * e')) * (d * e) := by grind
    rw [e1, z2]
    have e2 : (n' * e' + m' * d') * y * (d * e) = ((n' * d) * (e' * e) + (m' * e) * (d' * d)) * y := by grind
    rw [e2, h2, k2]; grind
theorem p16 {q t : Int × List Int × Int × List Int} {n d m e : Nat} (hd : 0 < d) (he : 0 < e) (hq : RatIs q n d) (ht : RatIs t m e) (b1 : n * e ≤ 1000000000000000000000000000000000000000000000000000000000000) (b2 : m * d ≤ 1000000000000000000000000000000000000000000000000000000000000) (s1 : Sm (n : Int)) (s2 : Sm (d : Int)) (s3 : Sm (m : Int)) (s4 : Sm (e : Int)) (h : n * e = m * d) :
    r16 q.1 q.2.1 q.2.2.1 q.2.2.2 t.1 t.2.1 t.2.2.1 t.2.2.2 = some 0 := by
  obtain ⟨n', d', rfl, h1, h2, h3, h4⟩ := hq
  obtain ⟨m', e', rfl, k1, k2, k3, k4⟩ := ht
  have l1 : ln (n' : Int) ≤ 7 := Nat.le_trans (ln_mono (by omega)) s1.ln
  have l2 : ln (d' : Int) ≤ 7 := Nat.le_trans (ln_mono (by omega)) s2.ln
  have l3 : ln (m' : Int) ≤ 7 := Nat.le_trans (ln_mono (by omega)) s3.ln
  have l4 : ln (e' : Int) ≤ 7 := Nat.le_trans (ln_mono (by omega)) s4.ln
  have c1 : n' * e' ≤ n * e := Nat.mul_le_mul h3 k4
  have c2 : m' * d' ≤ m * d := Nat.mul_le_mul k3 h4
  have l5 : ln ((n' * e' : Nat) : Int) ≤ 7 := Sm.ln ⟨by omega, by omega⟩
  have l6 : ln ((m' * d' : Nat) : Int) ≤ 7 := Sm.ln ⟨by omega, by omega⟩
  have heq : n' * e' = m' * d' := by
    refine Nat.eq_of_mul_eq_mul_right (Nat.mul_pos hd he) ?_
    have e1 : n' * e' * (d * e) = (n' * d) * (e' * e) := by grind
    have e2 : m' * d' * (d * e) = (m' * e) * (d' * d) := by grind
    rw [e1, e2, h2, k2]
    have e3 : n * d' * (e' * e) = (n * e) * (d' * e') := by grind
    rw [e3, h]; grind
  rw [r16, p33 (by omega) (by omega), Option.bind_some, p33 (by omega) (by omega), Option.bind_some, ← Int.natCast_mul, ← Int.natCast_mul, p34 (by omega) (by omega), Option.bind_some, heq, Int.sub_self]; rfl
end Go.Proofs.Ytfmjhllkheapeaa

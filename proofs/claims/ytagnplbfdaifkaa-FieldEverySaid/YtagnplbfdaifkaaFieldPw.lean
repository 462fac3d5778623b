/- FieldPowers as a plain law. -/
import Derived.Test.YtagnplbfdaifkaaFieldH
import Derived.Test.YtagnplbfdaifkaaFieldGc
import Derived.Test.YtagnplbfdaifkaaF18
set_option linter.unusedVariables false
set_option linter.unusedSimpArgs false
namespace Go.Proofs.Ytagnplbfdaifkaa
open Go.Abs

variable {T : Int} {L : List (Int × Int × Int)} {f : Int} {H : List Bool}
/-- the reference's powers -/
theorem p47 (ok : Ok T L f H) : r47 T L f H = some (powV (condsV L) (reactV f L H)) := by
  have h := ok.ladr
  have h4 := ok.lenc.2
  have hcl := condsV_len L
  have hle := ok.lad.le
  obtain ⟨p1, p2, p3⟩ := pow_ok h h4
  have hl := (solV_len _ _ h.len).1
  unfold r47
  rw [p56 ok, Option.bind_some]
  refine iter_run L.length (b47_1 L (solV (condsV L) (reactV f L H))) (fun i => ((powV (condsV L) (reactV f L H)).take i, (i : Int))) _ (by omega) (fun i hi => ?_) ?_
  · have hi' : i < (condsV L).length := by omega
    obtain ⟨q1, q2, q3, q4, q5, q6⟩ := pow_at h h4 hi'
    have hg := solV_get h.len (i + 1) (by omega)
    have f1 : IntKind.i64.wrap ((i : Int) + 1) = ((i + 1 : Nat) : Int) := by rw [wI (by omega) (by omega)]; rfl
    have hi1 : i + 1 < (solV (condsV L) (reactV f L H)).1.length := by omega
    rw [condsV_get L i hi] at q1
    simp only [b47_1, ltN hi, if_true, if_pos (rgN hi), f1, if_pos (rgN hi1), Int.toNat_natCast, hg, r111, bindC, q1, List.length_take]
    rw [if_pos ⟨by omega, by omega⟩, take_getD (show i < (powV (condsV L) (reactV f L H)).length by omega)]
  · unfold b47_1
    rw [if_neg (by simp)]
    simp only []
    rw [← hcl, ← p3, List.take_length]
/-- a sum -/
theorem p49 (l : List Int) (hl : l.length ≤ 1000000) (hp : ∀ p ∈ l, 0 ≤ p) (hs : l.sum ≤ 1000000000000000000) : r49 l = some l.sum := by
  refine iter_run l.length (b49_1 l) (fun i => ((l.take i).sum, (i : Int))) _ (by omega) (fun i hi => ?_) ?_
  · have s1 := pre_succ l i hi
    have s2 := pre_rng l hp (i + 1)
    simp only [b49_1, ltN hi, if_true, if_pos (rgN hi), Int.toNat_natCast, wS i (by omega)]
    rw [← s1, wI (by omega) (by omega)]; rfl
  · unfold b49_1
    rw [if_neg (by simp)]
    simp only [List.take_length]
theorem p49t (l : List Int) (hl : l.length ≤ 1000000) (hp : ∀ p ∈ l, 0 ≤ p) (hs : l.sum ≤ 1000000000000000000) (i : Nat) : r49 (l.take i) = some (l.take i).sum :=
  p49 _ (by simp; omega) (fun p h => hp p (List.mem_of_mem_take h)) (by have := pre_rng l hp i; omega)
theorem p51 (ok : Ok T L f H) {t : Int} (t0 : 0 ≤ t) (t1 : t ≤ 100000) : r51 T L f H t = some (wat t (powV (condsV L) (reactV f L H)).sum 0 (powV (condsV L) (reactV f L H))) := by
  have h := ok.ladr
  have h1 := ok.lenc.1
  have h4 := ok.lenc.2
  have hcl := condsV_len L
  have hle := ok.lad.le
  obtain ⟨p1, p2, p3⟩ := pow_ok h h4
  have ha := all_pos h h1
  unfold r51
  rw [p47 ok, Option.bind_some, p49 _ (by omega) p1 (by omega), Option.bind_some]
  generalize powV (condsV L) (reactV f L H) = P at *
  have wl := wat_len t P.sum P 0
  refine iter_run P.length (b51_1 t P P.sum) (fun i => ((wat t P.sum 0 P).take i, (i : Int))) _ (by omega) (fun i hi => ?_) ?_
  · have s1 := pre_rng P p1 i
    have s2 := pre_rng P p1 (i + 1)
    obtain ⟨m1, m2⟩ := mul_rng t0 t1 (s := (P.take (i + 1)).sum) (by omega) (by omega)
    obtain ⟨m3, m4⟩ := mul_rng t0 t1 (s := (P.take i).sum) (by omega) (by omega)
    have e1 := ediv_rng t0 (s := (P.take (i + 1)).sum) (all := P.sum) (by omega) (by omega) (by omega)
    have e2 := ediv_rng t0 (s := (P.take i).sum) (all := P.sum) (by omega) (by omega) (by omega)
    have hat := wat_at t P.sum P 0 i hi
    rw [Int.zero_add, Int.zero_add] at hat
    have f1 : IntKind.i64.wrap ((i : Int) + 1) = ((i + 1 : Nat) : Int) := by rw [wI (by omega) (by omega)]; rfl
    have f2 := p106 (t * (P.take (i + 1)).sum) P.sum (by omega) (by omega) (by omega)
    have f3 := p106 (t * (P.take i).sum) P.sum (by omega) (by omega) (by omega)
    have f4 : IntKind.i64.wrap (t * (P.take (i + 1)).sum) = t * (P.take (i + 1)).sum := wI (by omega) (by omega)
    have f5 : IntKind.i64.wrap (t * (P.take i).sum) = t * (P.take i).sum := wI (by omega) (by omega)
    have g1 : 0 ≤ 0 ∧ 0 ≤ ((i + 1 : Nat) : Int) ∧ ((i + 1 : Nat) : Int) ≤ (P.length : Int) := ⟨Nat.le_refl 0, by omega, by omega⟩
    have g2 : 0 ≤ 0 ∧ 0 ≤ (i : Int) ∧ (i : Int) ≤ (P.length : Int) := ⟨Nat.le_refl 0, by omega, by omega⟩
    simp only [b51_1, ltN hi, if_true, f1, if_pos g1, if_pos g2, Int.toNat_natCast, p49t P (by omega) p1 (by omega), f4, f5, f2, f3, bindC, List.length_take, wl]
    rw [if_pos ⟨by omega, by omega⟩, wI (by omega) (by omega), ← hat, ← take_getD (by omega)]
  · unfold b51_1
    rw [if_neg (by simp)]
    simp only [← wl, List.take_length]
theorem p52 (ok : Ok T L f H) {pc : Int} (t0 : 1 ≤ pc) (t1 : pc ≤ 100) : r52 T L f H pc = some (dep pc (powV (condsV L) (reactV f L H)).sum 0 (powV (condsV L) (reactV f L H)) : Int) := by
  have h := ok.ladr
  have h1 := ok.lenc.1
  have h4 := ok.lenc.2
  have hcl := condsV_len L
  have hle := ok.lad.le
  obtain ⟨p1, p2, p3⟩ := pow_ok h h4
  have ha := all_pos h h1
  unfold r52
  rw [p47 ok, Option.bind_some]
  generalize powV (condsV L) (reactV f L H) = P at *
  obtain ⟨m1, m2⟩ := mul_rng (t := pc) (by omega) (by omega) (s := P.sum) (by omega) (by omega)
  have f4 : IntKind.i64.wrap (pc * P.sum) = pc * P.sum := wI (by omega) (by omega)
  have step : ∀ i : Nat, i + 1 ≤ P.length → b52_1 pc P (((i + 1 : Nat) : Int)) = if 100 * (P.take (i + 1)).sum < pc * P.sum then .next (((i + 2 : Nat) : Int)) else .out (some ((i + 1 : Nat) : Int)) := by
    intro i hi
    have s2 := pre_rng P p1 (i + 1)
    have f1 : IntKind.i64.wrap (((i + 1 : Nat) : Int) + 1) = ((i + 2 : Nat) : Int) := by rw [wI (by omega) (by omega)]; rfl
    have f5 : IntKind.i64.wrap (100 * (P.take (i + 1)).sum) = 100 * (P.take (i + 1)).sum := wI (by omega) (by omega)
    have g1 : 0 ≤ 0 ∧ 0 ≤ ((i + 1 : Nat) : Int) ∧ ((i + 1 : Nat) : Int) ≤ (P.length : Int) := ⟨Nat.le_refl 0, by omega, by omega⟩
    simp only [b52_1, if_pos g1, Int.toNat_natCast, p49t P (by omega) p1 (by omega), p49 P (by omega) p1 (by omega), bindC, f4, f5, f1]
    by_cases hq : 100 * (P.take (i + 1)).sum < pc * P.sum
    · rw [if_pos (by simpa using hq), if_pos hq]
    · rw [if_neg (by simpa using hq), if_neg hq]
  have key := iter_suf (P.length - 1) (b52_1 pc P) (fun i => ((i + 1 : Nat) : Int)) (fun i => some ((i : Int) + (dep pc P.sum (P.take i).sum (P.drop i) : Nat))) (by omega) (fun i hi => by
    have s := pre_succ P i (by omega)
    rw [step i (by omega), drop_cons (show i < P.length by omega), dep_cons, ← s]
    by_cases hq : 100 * (P.take (i + 1)).sum < pc * P.sum
    · left
      rw [if_pos hq, if_neg (by omega)]
      refine ⟨rfl, congrArg some ?_⟩
      rw [Int.natCast_add, Int.natCast_add]
      omega
    · right
      rw [if_neg hq, if_pos (by omega)]; rfl) (by
    have s := pre_succ P (P.length - 1) (by omega)
    have e : P.length - 1 + 1 = P.length := by omega
    have hmul : pc * P.sum ≤ 100 * P.sum := Int.mul_le_mul_of_nonneg_right t1 (by omega)
    rw [step _ (by omega), drop_cons (show P.length - 1 < P.length by omega), dep_cons, ← s, e, List.take_length, if_neg (by omega), if_pos (by omega)]
    congr 2
    omega)
  simpa using key
/-- the lowest terms of a share -/
theorem p48 {a b : Int} (ha : 0 ≤ a) (ha2 : a ≤ 1000000000000000000) (hb : 1 ≤ b) (hb2 : b ≤ 1000000000000000000) : r48 a b = some (a.tdiv (Int.gcd a b), b.tdiv (Int.gcd a b)) ∧ (Int.gcd a b : Int) ≠ 0 ∧ 0 ≤ a.tdiv (Int.gcd a b) ∧ 1 ≤ b.tdiv (Int.gcd a b) := by
  have ra : R63 a := ⟨by omega, by omega⟩
  have rb : R63 b := ⟨by omega, by omega⟩
  have hg : Int.gcd a b ≠ 0 := by
    intro h
    rw [Int.gcd_eq_zero_iff] at h
    omega
  have hg' : (Int.gcd a b : Int) ≠ 0 := by omega
  have hd : (Int.gcd a b : Int) ∣ b := Int.gcd_dvd_right a b
  have hg0 : (0 : Int) ≤ (Int.gcd a b : Int) := Int.natCast_nonneg _
  refine ⟨?_, hg', Int.tdiv_nonneg ha hg0, ?_⟩
  · unfold r48
    rw [p112 ra rb, Option.bind_some, if_neg (by simp; omega), if_pos hg', if_pos hg', tdiv_rng ra hg', tdiv_rng rb hg']
  · have e := Int.mul_tdiv_cancel' hd
    have h0 : 0 ≤ b.tdiv (Int.gcd a b) := Int.tdiv_nonneg (by omega) hg0
    by_cases hz : b.tdiv (Int.gcd a b) = 0
    · rw [hz, Int.mul_zero] at e; omega
    · omega
theorem p50 (a b : Int) : r50 a b = some (inR a (-1000000000) 1000000000 && inR b 1 1000000000) := by
  unfold r50
  rw [p33, Option.bind_some, p33, gS, Option.getD_some]
theorem p88' (T : Int) (L : List (Int × Int × Int)) (a : Int) (h : L.length ≤ 1000000) : r88 T L a = some (codeIf (inR a 0 ((L.length : Int) - 1)) 6) := by
  unfold r88
  rw [wI (by omega) (by omega), p97, Option.bind_some, p96]; rfl
theorem p24' (T : Int) (L : List (Int × Int × Int)) (a : Int) (h : L.length ≤ 1000000) : r24 T L a = some (codeIf (inR a 0 ((L.length : Int) - 1)) 6) := by
  unfold r24
  rw [wI (by omega) (by omega), p33, Option.bind_some]
  unfold codeIf
  cases inR a 0 ((L.length : Int) - 1) <;> rfl
/-- the share of a shell, in lowest terms; too large -/
def shV (a b : Int) : Int × Int × Int :=
  if inR (a.tdiv (Int.gcd a b)) (-1000000000) 1000000000 && inR (b.tdiv (Int.gcd a b)) 1 1000000000 then (a.tdiv (Int.gcd a b), b.tdiv (Int.gcd a b), 0) else (0, 0, 8)
theorem p46 (T : Int) (L : List (Int × Int × Int)) (f : Int) (H : List Bool) (hl : L.length ≤ 1000000) (a : Int) :
    r46 T L f H a = some (if bothE T L f H ≠ 0 then (0, 0, bothE T L f H) else if inR a 0 ((L.length : Int) - 1) = true then shV ((powV (condsV L) (reactV f L H)).getD a.toNat default) (powV (condsV L) (reactV f L H)).sum else (0, 0, 6)) := by
  unfold r46
  rw [p83, Option.bind_some, p88' T L a hl, Option.bind_some, p87 _ (by simp), Option.bind_some]
  by_cases hb : bothE T L f H = 0
  · simp only [if_pos hb, ne_eq, hb, not_true, if_false]
    cases ha : inR a 0 ((L.length : Int) - 1) with
    | false => simp [codeIf, firstV]
    | true =>
      have ia := inR_iff.1 ha
      have ok := ok_of hb
      have h := ok.ladr
      have h1 := ok.lenc.1
      have h4 := ok.lenc.2
      have hcl := condsV_len L
      obtain ⟨p1, p2, p3⟩ := pow_ok h h4
      have hall := all_pos h h1
      have hai : a.toNat < (powV (condsV L) (reactV f L H)).length := by omega
      have hm := p1 _ (getD_mem hai)
      have hm2 : (powV (condsV L) (reactV f L H)).getD a.toNat default ≤ (powV (condsV L) (reactV f L H)).sum := by
        have s1 := pre_succ _ _ hai
        have s2 := pre_rng _ p1 (a.toNat + 1)
        have s3 := pre_rng _ p1 a.toNat
        omega
      simp only [codeIf, if_true, firstV]
      rw [if_neg (by simp), p101 h h1 h4, Option.bind_some]
      simp only []
      generalize powV (condsV L) (reactV f L H) = P at *
      generalize P.getD a.toNat default = q at *
      obtain ⟨e1, e2, e3, e4⟩ := p48 (a := q) (b := P.sum) (by omega) (by omega) (by omega) (by omega)
      have eg : (gcdL [q, P.sum] : Int) = (Int.gcd q P.sum : Int) := by simp [gcdL, Int.gcd]
      rw [if_pos ⟨by omega, by omega⟩, p110 _ (by simp) (by simp only [List.mem_cons, List.not_mem_nil, or_false]; rintro x (rfl | rfl) <;> exact ⟨by omega, by omega⟩), Option.bind_some, eg, if_pos ⟨by omega, by omega⟩, if_pos e2, if_pos e2,
        tdiv_rng ⟨by omega, by omega⟩ e2, tdiv_rng ⟨by omega, by omega⟩ e2]
      unfold shV
      generalize q.tdiv (Int.gcd q P.sum) = u at *
      generalize P.sum.tdiv (Int.gcd q P.sum) = w at *
      by_cases c1 : u ≤ 1000000000
      · by_cases c2 : w ≤ 1000000000
        · rw [if_neg (by simp; omega), if_pos (by rw [inR_iff.2 ⟨by omega, c1⟩, inR_iff.2 ⟨e4, c2⟩]; rfl)]
        · rw [if_pos (by simp; omega), if_neg (by simp [inR]; omega)]
      · rw [if_pos (by simp; omega), if_neg (by simp [inR]; omega)]
  · simp only [if_neg hb, ne_eq, hb, not_false_eq_true, if_true, firstV, if_false]
    rw [if_pos (by simpa using hb)]
/-- the tail: watts and depth -/
theorem tailP (ok : Ok T L f H) (t pc : Int) {v7 : List Int × Int} {v8 : Int × Int} (h7 : v7 = if inR t 0 100000 = true then (wat t (powV (condsV L) (reactV f L H)).sum 0 (powV (condsV L) (reactV f L H)), 0) else ([], 2))
    (h8 : v8 = if inR pc 1 100 = true then ((dep pc (powV (condsV L) (reactV f L H)).sum 0 (powV (condsV L) (reactV f L H)) : Int), 0) else (0, 2)) :
    ((r37 t).bind fun v12 =>
      if (((!((v12 != 0) && ((v7.2 != v12) || ((v7.1.length : Int) != 0)))) && (v12 == 0)) && (!(v7.2 != 0))) = true → (r51 T L f H t).isSome = true then
       if (((!((v12 != 0) && ((v7.2 != v12) || ((v7.1.length : Int) != 0)))) && (v12 == 0)) && (!(v7.2 != 0))) = true → (r30 v7.1 ((r51 T L f H t).getD default)).isSome = true then
        if (((v12 != 0) && ((v7.2 != v12) || ((v7.1.length : Int) != 0))) || ((v12 == 0) && ((v7.2 != 0) || (!((r30 v7.1 ((r51 T L f H t).getD default)).getD default))))) = true then
         some false
         else (r33 pc 1 100).bind fun v13 =>
          if (!v13) = true then
           some ((v8.2 == 2) && (v8.1 == 0))
           else if (v8.2 == 0) = true → (r52 T L f H pc).isSome = true then
            some ((v8.2 == 0) && (v8.1 == ((r52 T L f H pc).getD default)))
            else none
        else none
       else none) = some true := by
  have h := ok.ladr
  have h4 := ok.lenc.2
  have hcl := condsV_len L
  obtain ⟨p1, p2, p3⟩ := pow_ok h h4
  have fin : ((r33 pc 1 100).bind fun v13 =>
          if (!v13) = true then
           some ((v8.2 == 2) && (v8.1 == 0))
           else if (v8.2 == 0) = true → (r52 T L f H pc).isSome = true then
            some ((v8.2 == 0) && (v8.1 == ((r52 T L f H pc).getD default)))
            else none) = some true := by
    rw [p33, Option.bind_some]
    cases hpc : inR pc 1 100 with
    | false =>
      rw [hpc] at h8
      subst h8
      simp
    | true =>
      have ip := inR_iff.1 hpc
      rw [hpc, if_pos rfl] at h8
      subst h8
      rw [if_neg (by simp), p52 ok ip.1 ip.2, gS]
      simp
  rw [p37, Option.bind_some]
  cases ht : inR t 0 100000 with
  | false =>
    rw [ht] at h7
    subst h7
    rw [if_pos (by simp [codeIf]), if_pos (by simp [codeIf]), if_neg (by simp [codeIf])]
    exact fin
  | true =>
    have it := inR_iff.1 ht
    rw [ht, if_pos rfl] at h7
    have h71 : v7.1 = wat t (powV (condsV L) (reactV f L H)).sum 0 (powV (condsV L) (reactV f L H)) := by rw [h7]
    have h72 : v7.2 = 0 := by rw [h7]
    have hr : r30 v7.1 ((r51 T L f H t).getD default) = some true := by
      rw [h71, p51 ok it.1 it.2, Option.getD_some]
      exact p30 _ _ (by rw [wat_len]; omega) rfl
    rw [if_pos (fun _ => by rw [p51 ok it.1 it.2]; rfl), if_pos (fun _ => by rw [hr]; rfl), if_neg (by rw [hr, h72]; simp [codeIf])]
    exact fin
theorem powers (T : Int) (L : List (Int × Int × Int)) (f : Int) (H : List Bool) (a t pc : Int) : r9 T L f H a t pc = some true := by
  unfold r9
  rw [awake, Option.bind_some, if_neg (by simp), p16, Option.bind_some, p17, gS, Option.getD_some]
  by_cases hf : ((!decide ((L.length : Int) ≤ 6)) || (!decide ((H.length : Int) ≤ 6))) = true
  · rw [if_pos hf]
  · rw [if_neg hf]
    simp only [Bool.or_eq_true, Bool.not_eq_true', decide_eq_false_iff_not, not_or, Decidable.not_not] at hf
    rw [p19 T L (by omega), Option.bind_some, p20 f H (by omega), Option.bind_some, p36, Option.bind_some, p46 T L f H (by omega), Option.bind_some, p38, Option.bind_some, p39, Option.bind_some, p22, Option.bind_some]
    by_cases hb : bothE T L f H = 0
    · rw [if_neg (by simp [hb])]
      have ok := ok_of hb
      have hle := ok.lad.le
      have h := ok.ladr
      have h1 := ok.lenc.1
      have h4 := ok.lenc.2
      have hcl := condsV_len L
      obtain ⟨p1, p2, p3⟩ := pow_ok h h4
      have hall := all_pos h h1
      have hb' : ¬ (bothE T L f H ≠ 0) := by simpa using hb
      simp only [if_pos hb, if_neg hb']
      rw [p47 ok, Option.bind_some, p30 _ _ (by omega) rfl, gS]
      simp only [Option.getD_some]
      rw [if_neg (by simp), p24' T L a (by omega), Option.bind_some]
      cases ha : inR a 0 ((L.length : Int) - 1) with
      | false =>
        rw [if_pos (by simp [codeIf]), if_neg (by simp [codeIf])]
        exact tailP ok t pc rfl rfl
      | true =>
        have ia := inR_iff.1 ha
        have hai : a.toNat < (powV (condsV L) (reactV f L H)).length := by omega
        have hm := p1 _ (getD_mem hai)
        have hm2 : (powV (condsV L) (reactV f L H)).getD a.toNat default ≤ (powV (condsV L) (reactV f L H)).sum := by
          have s1 := pre_succ _ _ hai
          have s2 := pre_rng _ p1 (a.toNat + 1)
          have s3 := pre_rng _ p1 a.toNat
          omega
        rw [if_neg (by simp [codeIf]), if_pos ⟨by omega, by omega⟩, p49 _ (by omega) p1 (by omega), Option.bind_some]
        obtain ⟨e1, e2, e3, e4⟩ := p48 (a := (powV (condsV L) (reactV f L H)).getD a.toNat default) (b := (powV (condsV L) (reactV f L H)).sum) (by omega) (by omega) (by omega) (by omega)
        rw [e1, Option.bind_some, p50, Option.bind_some, if_neg]
        · exact tailP ok t pc rfl rfl
        · simp only [if_true]
          unfold shV
          cases hi : (inR (((powV (condsV L) (reactV f L H)).getD a.toNat default).tdiv (Int.gcd ((powV (condsV L) (reactV f L H)).getD a.toNat default) (powV (condsV L) (reactV f L H)).sum)) (-1000000000) 1000000000 && inR ((powV (condsV L) (reactV f L H)).sum.tdiv (Int.gcd ((powV (condsV L) (reactV f L H)).getD a.toNat default) (powV (condsV L) (reactV f L H)).sum)) 1 1000000000) with
          | true => simp
          | false => simp
    · rw [if_pos (by simpa using hb)]
      simp [hb]
      rfl
end Go.Proofs.Ytagnplbfdaifkaa

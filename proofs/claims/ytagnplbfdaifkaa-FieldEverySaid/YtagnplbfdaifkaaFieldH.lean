/- Field: powers, watts and depths of the code. -/
import Derived.Test.YtagnplbfdaifkaaFieldE
import Derived.Test.YtagnplbfdaifkaaF10
import Derived.Test.YtagnplbfdaifkaaF12
set_option linter.unusedVariables false
set_option linter.unusedSimpArgs false
namespace Go.Proofs.Ytagnplbfdaifkaa
open Go.Abs

theorem wrapP {c : Int} {v : Int × Int} (hc : 1 ≤ c) (hB : c * nrm v ≤ 1000000000000000) :
    IntKind.i64.wrap (c * IntKind.i64.wrap (IntKind.i64.wrap (v.1 * v.1) + IntKind.i64.wrap (v.2 * v.2))) = c * nrm v := by
  have h0 := nrm_nn v
  have h1 := Int.mul_le_mul_of_nonneg_right hc h0
  have a := sqI v.1
  have b := sqI v.2
  have e : nrm v = v.1 * v.1 + v.2 * v.2 := rfl
  rw [wI (a := v.1 * v.1) (by omega) (by omega), wI (a := v.2 * v.2) (by omega) (by omega), wI (a := v.1 * v.1 + v.2 * v.2) (by omega) (by omega), ← e, wI (by omega) (by omega)]
theorem dT {α : Type} [Inhabited α] {l : List α} {n i : Nat} (hn : l.length = n + 1) (h : i < n) : ((l.drop 1).take n).getD i default = l.getD (i + 1) default := by
  have := dropTake l i (by omega)
  rwa [show l.length - 1 = n by omega] at this
variable {cs xs : List Int}
theorem pow_ok (h : Lad cs xs) (h4 : cs.length ≤ 4) : (∀ p ∈ powV cs xs, 0 ≤ p) ∧ (powV cs xs).sum ≤ 19008000000000 ∧ (powV cs xs).length = cs.length :=
  ⟨fun p hp => by have := pow_pos h p hp; omega, Int.le_trans (sum_bd h) (sB_le h4), powV_len cs xs h.len⟩
theorem all_pos (h : Lad cs xs) (h1 : 1 ≤ cs.length) : 1 ≤ (powV cs xs).sum := by
  match cs, xs, h, h1 with
  | c :: cs, x :: xs, h, _ =>
    have hp := pow_pos h
    rw [powV, List.sum_cons]
    have h1 := hp _ (by rw [powV]; exact List.mem_cons_self ..)
    have h2 := sum_nn (powV cs xs) (fun p hq => by have := hp p (by rw [powV]; exact List.mem_cons_of_mem _ hq); omega)
    omega
  | c :: cs, [], h, _ => have := h.len; simp at this
/-- the i-th power, as the code computes it -/
theorem pow_at (h : Lad cs xs) (h4 : cs.length ≤ 4) {i : Nat} (hi : i < cs.length) :
    IntKind.i64.wrap (cs.getD i default * IntKind.i64.wrap (IntKind.i64.wrap ((vV cs xs (i + 1)).1 * (vV cs xs (i + 1)).1) + IntKind.i64.wrap ((vV cs xs (i + 1)).2 * (vV cs xs (i + 1)).2))) = (powV cs xs).getD i default ∧
    0 ≤ (powV cs xs).getD i default ∧ (powV cs xs).getD i default ≤ 19008000000000 ∧ 0 ≤ ((powV cs xs).take i).sum ∧ ((powV cs xs).take i).sum + (powV cs xs).getD i default = ((powV cs xs).take (i + 1)).sum ∧ ((powV cs xs).take (i + 1)).sum ≤ (powV cs xs).sum := by
  obtain ⟨p1, p2, p3⟩ := pow_ok h h4
  have e := powV_get h.len i hi
  have hs := pre_succ (powV cs xs) i (by omega)
  have hr := pre_rng (powV cs xs) p1 i
  have hr' := pre_rng (powV cs xs) p1 (i + 1)
  have hm := p1 _ (getD_mem (show i < (powV cs xs).length by omega))
  have hc := h.c _ (getD_mem hi)
  have hw := wrapP (c := cs.getD i default) (v := vV cs xs (i + 1)) hc.1 (by rw [← e]; omega)
  rw [← e] at hw
  exact ⟨hw, hm, by omega, hr.1, by omega, hr'.2⟩
def stP (cs xs : List Int) (i : Nat) : Int × Int × List Int × Int := (((powV cs xs).take i).sum, (i : Int), (powV cs xs).take i, ((powV cs xs).take i).sum)
theorem step101 (h : Lad cs xs) (h4 : cs.length ≤ 4) {i : Nat} (hi : i < cs.length) : b101_1 cs (solV cs xs) (stP cs xs i) = .next (stP cs xs (i + 1)) := by
  have hl := (solV_len cs xs h.len).1
  obtain ⟨p1, p2, p3⟩ := pow_ok h h4
  obtain ⟨q1, q2, q3, q4, q5, q6⟩ := pow_at h h4 hi
  have hg := solV_get h.len (i + 1) (by omega)
  simp only [b101_1, stP, hl, Nat.add_sub_cancel, Int.toNat_natCast, dT hl hi, List.length_take, List.length_drop, Nat.min_self, ltN hi, if_true, if_pos (rgN hi), hg, q1, wS i (by omega)]
  rw [wI (a := ((powV cs xs).take i).sum + (powV cs xs).getD i default) (by omega) (by omega), q5, if_pos ⟨by omega, by omega⟩, take_getD (show i < (powV cs xs).length by omega)]
  rfl
theorem p101 (h : Lad cs xs) (h1 : 1 ≤ cs.length) (h4 : cs.length ≤ 4) : r101 cs xs = some (powV cs xs, (powV cs xs).sum) := by
  have hl := (solV_len cs xs h.len).1
  obtain ⟨p1, p2, p3⟩ := pow_ok h h4
  unfold r101
  rw [p84 h h1 h4, Option.bind_some, if_pos ⟨by omega, by omega, by omega⟩]
  have := iter_run cs.length (b101_1 cs (solV cs xs)) (stP cs xs) (some (powV cs xs, (powV cs xs).sum)) (by omega) (fun i hi => step101 h h4 hi) (by
    unfold b101_1
    rw [if_neg (by simp [stP, hl])]
    simp only [stP, ← p3, List.take_length])
  simpa [stP] using this
def stW (t : Int) (cs xs : List Int) (i : Nat) : Int × Int × List Int × Int :=
  (((powV cs xs).take i).sum, (i : Int), (wat t (powV cs xs).sum 0 (powV cs xs)).take i, t * ((powV cs xs).take i).sum / (powV cs xs).sum)
theorem mul_rng {t s : Int} (h0 : 0 ≤ t) (h1 : t ≤ 100000) (hs : 0 ≤ s) (hm : s ≤ 19008000000000) : 0 ≤ t * s ∧ t * s ≤ 1900800000000000000 := by
  refine ⟨Int.mul_nonneg h0 hs, ?_⟩
  have := Int.mul_le_mul h1 hm hs (by omega)
  omega
theorem step103 (h : Lad cs xs) (h1 : 1 ≤ cs.length) (h4 : cs.length ≤ 4) {t : Int} (t0 : 0 ≤ t) (t1 : t ≤ 100000) {i : Nat} (hi : i < cs.length) :
    b103_1 cs t (powV cs xs, (powV cs xs).sum) (solV cs xs) (stW t cs xs i) = .next (stW t cs xs (i + 1)) := by
  have hl := (solV_len cs xs h.len).1
  obtain ⟨p1, p2, p3⟩ := pow_ok h h4
  obtain ⟨q1, q2, q3, q4, q5, q6⟩ := pow_at h h4 hi
  have hg := solV_get h.len (i + 1) (by omega)
  have ha := all_pos h h1
  obtain ⟨m1, m2⟩ := mul_rng t0 t1 (s := ((powV cs xs).take (i + 1)).sum) (by omega) (by omega)
  have e1 := ediv_rng t0 (s := ((powV cs xs).take (i + 1)).sum) (all := (powV cs xs).sum) (by omega) (by omega) (by omega)
  have e2 := ediv_rng t0 (s := ((powV cs xs).take i).sum) (all := (powV cs xs).sum) (by omega) (by omega) (by omega)
  have hwl : (wat t (powV cs xs).sum 0 (powV cs xs)).length = cs.length := by rw [wat_len, p3]
  have hat := wat_at t (powV cs xs).sum (powV cs xs) 0 i (by omega)
  rw [Int.zero_add, Int.zero_add] at hat
  simp only [b103_1, stW, hl, Nat.add_sub_cancel, Int.toNat_natCast, dT hl hi, List.length_take, List.length_drop, Nat.min_self, ltN hi, if_true, if_pos (rgN hi), hg, q1, wS i (by omega)]
  rw [wI (a := ((powV cs xs).take i).sum + (powV cs xs).getD i default) (by omega) (by omega), q5, if_pos (by omega), if_pos ⟨by omega, by omega⟩, wI (a := t * ((powV cs xs).take (i + 1)).sum) (by omega) (by omega),
    Int.tdiv_eq_ediv_of_nonneg m1, wI (a := t * ((powV cs xs).take (i + 1)).sum / (powV cs xs).sum) (by omega) (by omega), wI (by omega) (by omega), take_getD (show i < (wat t (powV cs xs).sum 0 (powV cs xs)).length by omega), hat]
  rfl
theorem p103 (h : Lad cs xs) (h1 : 1 ≤ cs.length) (h4 : cs.length ≤ 4) {t : Int} (t0 : 0 ≤ t) (t1 : t ≤ 100000) : r103 cs xs t = some (wat t (powV cs xs).sum 0 (powV cs xs)) := by
  have hl := (solV_len cs xs h.len).1
  obtain ⟨p1, p2, p3⟩ := pow_ok h h4
  have hwl : (wat t (powV cs xs).sum 0 (powV cs xs)).length = cs.length := by rw [wat_len, p3]
  unfold r103
  rw [p101 h h1 h4, Option.bind_some, p84 h h1 h4, Option.bind_some, if_pos ⟨by omega, by omega, by omega⟩]
  have := iter_run cs.length (b103_1 cs t (powV cs xs, (powV cs xs).sum) (solV cs xs)) (stW t cs xs) (some (wat t (powV cs xs).sum 0 (powV cs xs))) (by omega) (fun i hi => step103 h h1 h4 t0 t1 hi) (by
    unfold b103_1
    rw [if_neg (by simp [stW, hl])]
    simp only [stW, ← hwl, List.take_length])
  simpa [stW] using this
theorem dep_cons (pc all s p : Int) (ps : List Int) : dep pc all s (p :: ps) = if 100 * (s + p) ≥ pc * all then 1 else 1 + dep pc all (s + p) ps := rfl
theorem drop_cons {l : List Int} {i : Nat} (h : i < l.length) : l.drop i = l.getD i default :: l.drop (i + 1) := drop_getD h
theorem p105 (h : Lad cs xs) (h1 : 1 ≤ cs.length) (h4 : cs.length ≤ 4) {pc : Int} (t0 : 1 ≤ pc) (t1 : pc ≤ 100) : r105 cs xs pc = some (dep pc (powV cs xs).sum 0 (powV cs xs) : Int) := by
  have hl := (solV_len cs xs h.len).1
  obtain ⟨p1, p2, p3⟩ := pow_ok h h4
  have ha := all_pos h h1
  obtain ⟨m1, m2⟩ := mul_rng (t := pc) (by omega) (by omega) (s := (powV cs xs).sum) (by omega) (by omega)
  unfold r105
  rw [p101 h h1 h4, Option.bind_some, p84 h h1 h4, Option.bind_some, if_pos ⟨by omega, by omega, by omega⟩]
  have := iter_suf cs.length (b105_1 cs pc (powV cs xs, (powV cs xs).sum) (solV cs xs)) (fun i => (((powV cs xs).take i).sum, (i : Int), (i : Int)))
    (fun i => some ((i : Int) + (dep pc (powV cs xs).sum ((powV cs xs).take i).sum ((powV cs xs).drop i) : Nat))) (by omega) (fun i hi => by
      obtain ⟨q1, q2, q3, q4, q5, q6⟩ := pow_at h h4 hi
      have hg := solV_get h.len (i + 1) (by omega)
      simp only [b105_1, hl, Nat.add_sub_cancel, Int.toNat_natCast, dT hl hi, List.length_take, List.length_drop, Nat.min_self, ltN hi, if_true, if_pos (rgN hi), hg, q1, wS i (by omega)]
      rw [wI (a := ((powV cs xs).take i).sum + (powV cs xs).getD i default) (by omega) (by omega), q5, wI (a := 100 * ((powV cs xs).take (i + 1)).sum) (by omega) (by omega), wI (a := pc * (powV cs xs).sum) (by omega) (by omega)]
      rw [drop_cons (show i < (powV cs xs).length by omega)]
      rw [dep_cons, q5]
      by_cases hc : 100 * ((powV cs xs).take (i + 1)).sum ≥ pc * (powV cs xs).sum
      · right
        rw [if_pos (by simpa using hc), if_pos hc]; rfl
      · left
        rw [if_neg (by simpa using hc), if_neg hc]
        refine ⟨rfl, congrArg some ?_⟩
        rw [Int.natCast_add, Int.natCast_add]
        omega) (by
      unfold b105_1
      rw [if_neg (by simp [hl])]
      simp only [← p3, List.drop_length, dep]
      simp)
  simpa using this
variable {T : Int} {L : List (Int × Int × Int)} {f : Int} {H : List Bool}
theorem Ok.lenc (ok : Ok T L f H) : 1 ≤ (condsV L).length ∧ (condsV L).length ≤ 4 := by
  rw [condsV_len]; exact ⟨ok.lad.pos, ok.lad.le⟩
theorem p36 (T : Int) (L : List (Int × Int × Int)) (f : Int) (H : List Bool) : r36 T L f H = some (if bothE T L f H = 0 then (powV (condsV L) (reactV f L H), 0) else ([], bothE T L f H)) := by
  unfold r36
  rw [p83, Option.bind_some]
  by_cases h : bothE T L f H = 0
  · simp only [if_pos h]
    rw [if_neg (by simp), p101 (ok_of h).ladr (ok_of h).lenc.1 (ok_of h).lenc.2]; rfl
  · simp only [if_neg h]
    rw [if_pos (by simpa using h)]
theorem p102 (t : Int) : r102 t = some (codeIf (inR t 0 100000) 2) := by
  unfold r102; rw [p97, Option.bind_some, p96]; rfl
theorem p104 (t : Int) : r104 t = some (codeIf (inR t 1 100) 2) := by
  unfold r104; rw [p97, Option.bind_some, p96]; rfl
theorem p37 (t : Int) : r37 t = some (codeIf (inR t 0 100000) 2) := by
  unfold r37; rw [p33, Option.bind_some]; unfold codeIf; cases inR t 0 100000 <;> rfl
theorem p38 (T : Int) (L : List (Int × Int × Int)) (f : Int) (H : List Bool) (t : Int) :
    r38 T L f H t = some (if bothE T L f H ≠ 0 then ([], bothE T L f H) else if inR t 0 100000 = true then (wat t (powV (condsV L) (reactV f L H)).sum 0 (powV (condsV L) (reactV f L H)), 0) else ([], 2)) := by
  unfold r38
  rw [p83, Option.bind_some, p102, Option.bind_some, p87 _ (by simp), Option.bind_some]
  by_cases h : bothE T L f H = 0
  · simp only [if_pos h, ne_eq, h, not_true, if_false]
    cases ht : inR t 0 100000 with
    | false => simp [codeIf, firstV]
    | true =>
      simp only [codeIf, firstV, if_true, bne_self_eq_false, Bool.false_eq_true, if_false]
      rw [p103 (ok_of h).ladr (ok_of h).lenc.1 (ok_of h).lenc.2 (inR_iff.1 ht).1 (inR_iff.1 ht).2]; rfl
  · simp only [if_neg h, ne_eq, h, not_false_eq_true, if_true, firstV, if_false]
    rw [if_pos (by simpa using h)]
theorem p39 (T : Int) (L : List (Int × Int × Int)) (f : Int) (H : List Bool) (t : Int) :
    r39 T L f H t = some (if bothE T L f H ≠ 0 then (0, bothE T L f H) else if inR t 1 100 = true then ((dep t (powV (condsV L) (reactV f L H)).sum 0 (powV (condsV L) (reactV f L H)) : Int), 0) else (0, 2)) := by
  unfold r39
  rw [p83, Option.bind_some, p104, Option.bind_some, p87 _ (by simp), Option.bind_some]
  by_cases h : bothE T L f H = 0
  · simp only [if_pos h, ne_eq, h, not_true, if_false]
    cases ht : inR t 1 100 with
    | false => simp [codeIf, firstV]
    | true =>
      simp only [codeIf, firstV, if_true, bne_self_eq_false, Bool.false_eq_true, if_false]
      rw [p105 (ok_of h).ladr (ok_of h).lenc.1 (ok_of h).lenc.2 (inR_iff.1 ht).1 (inR_iff.1 ht).2]; rfl
  · simp only [if_neg h, ne_eq, h, not_false_eq_true, if_true, firstV, if_false]
    rw [if_pos (by simpa using h)]
theorem p106 (n d : Int) (hd : 0 < d) (h1 : -9000000000000000000 ≤ n) (h2 : n ≤ 9000000000000000000) : r106 n d = some (n / d) := by
  have b1 : -9000000000000000000 ≤ n / d := by
    rw [Int.le_ediv_iff_mul_le hd]
    have := Int.mul_le_mul_of_nonneg_left (show 1 ≤ d by omega) (show (0 : Int) ≤ 9000000000000000000 by omega)
    omega
  have b2 : n / d < 9000000000000000001 := by
    rw [Int.ediv_lt_iff_lt_mul hd]
    have := Int.mul_le_mul_of_nonneg_left (show 1 ≤ d by omega) (show (0 : Int) ≤ 9000000000000000001 by omega)
    omega
  unfold r106
  rw [if_pos (by omega), if_pos (by omega), Int.tmod_eq_emod, Int.tdiv_eq_ediv]
  have m1 := Int.emod_nonneg n (show d ≠ 0 by omega)
  have m2 := Int.emod_lt_of_pos n hd
  by_cases hc : 0 ≤ n ∨ d ∣ n
  · rw [if_pos hc, if_pos hc, if_neg (by rw [decide_eq_true_eq]; omega), Int.add_zero, IntWalk.i64_in (n / d) ⟨by omega, by omega⟩]
  · rw [if_neg hc, if_neg hc, if_pos (by rw [decide_eq_true_eq]; omega), Int.sign_eq_one_of_pos hd]
    rw [IntWalk.i64_in (n / d + 1) ⟨by omega, by omega⟩, Int.add_sub_cancel, IntWalk.i64_in (n / d) ⟨by omega, by omega⟩]
end Go.Proofs.Ytagnplbfdaifkaa

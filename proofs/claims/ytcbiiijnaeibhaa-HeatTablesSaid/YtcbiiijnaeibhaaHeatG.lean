/- HeatTables as a plain law. -/
import Derived.Test.YtcbiiijnaeibhaaHeatS
import Derived.Test.YtcbiiijnaeibhaaF16
set_option linter.unusedVariables false
set_option linter.unusedSimpArgs false
namespace Go.Proofs.Ytcbiiijnaeibhaa
open Go.Abs

theorem gcd_loop (B : Int × Int → Ctl (Int × Int) Int) (hB : ∀ x y : Int, 0 ≤ x → x ≤ 9000000000000000000 → 0 ≤ y → B (x, y) = if y = 0 then .out (some x) else .next (y, x.tmod y)) :
    ∀ (n : Nat) (x y : Int) (fuel : Nat), 0 ≤ x → x ≤ 9000000000000000000 → 0 ≤ y → y ≤ 9000000000000000000 → y < n → n < fuel → iterC B fuel (x, y) = some (Int.gcd x y : Int)
  | 0, x, y, fuel, _, _, _, _, _, _ => by omega
  | n + 1, x, y, fuel, h1, h2, h3, h3', h4, h5 => by
    obtain ⟨m, rfl⟩ : ∃ m, fuel = m + 1 := ⟨fuel - 1, by omega⟩
    simp only [iterC, hB x y h1 h2 h3]
    by_cases hy : y = 0
    · rw [if_pos hy]
      simp only
      rw [hy, Int.gcd_zero_right, Int.natAbs_of_nonneg h1]
    · rw [if_neg hy]
      simp only
      have e1 : x.tmod y = x % y := Int.tmod_eq_emod_of_nonneg h1
      have e2 := Int.emod_nonneg x hy
      have e3 := Int.emod_lt_of_pos x (show 0 < y by omega)
      rw [e1, gcd_loop B hB n y (x % y) m h3 h3' e2 (by omega) (by omega) (by omega)]
      congr 2
      rw [Int.emod_def, Int.sub_eq_add_neg, ← Int.mul_neg, Int.gcd_add_mul_left_right, Int.gcd_comm]
theorem neg_in (x : Int) (h1 : 0 ≤ x) (h2 : x ≤ 9000000000000000000) : (if x < IntKind.i64.wrap (0 - x) then IntKind.i64.wrap (0 - x) else x) = x := by
  rw [IntWalk.i64_in (0 - x) ⟨by omega, by omega⟩, if_neg (by omega)]
theorem p122 (x y : Int) (h1 : 0 ≤ x) (h2 : x ≤ 9000000000000000000) (h3 : 0 ≤ y) (h4 : y ≤ 100000000) : r122 x y = some (Int.gcd x y : Int) := by
  unfold r122
  refine gcd_loop b122_1 (fun x y hx hx2 hy => ?_) 100000001 x y 1000000000 h1 h2 h3 (by omega) (by omega) (by omega)
  unfold b122_1
  simp only [neg_in x hx hx2]
  by_cases h : y = 0
  · rw [if_pos h, if_neg (by simpa using h)]
  · rw [if_neg h, if_pos (by simpa using h), if_pos h]
theorem p128 (x y : Int) (h1 : 0 ≤ x) (h2 : x ≤ 9000000000000000000) (h3 : 0 ≤ y) (h4 : y ≤ 100000000) : r128 x y = some (Int.gcd x y : Int) := by
  unfold r128
  refine gcd_loop b128_1 (fun x y hx hx2 hy => ?_) 100000001 x y 1000000000 h1 h2 h3 (by omega) (by omega) (by omega)
  unfold b128_1
  simp only [r157, neg_in x hx hx2, Option.bind_some]
  by_cases h : y = 0
  · rw [if_pos h, if_neg (by simpa using h)]
  · rw [if_neg h, if_pos (by simpa using h), if_pos h]
/-- lowest terms -/
theorem low {v : Rat} {N D : Int} (h : At v N D 1000000 3000) : (Int.gcd N D : Int) ≠ 0 ∧ IntKind.i64.wrap (N.tdiv (Int.gcd N D)) = v.num ∧ IntKind.i64.wrap (D.tdiv (Int.gcd N D)) = v.den := by
  have h1 := h.pos; have h2 := h.le; have h3 := h.num
  have h0 : (0 : Rat) < D := Rat.intCast_pos.2 h1
  have e : v = Rat.divInt N D := by
    rw [Rat.divInt_eq_div, h.eq, Rat.mul_div_cancel (by grind)]
  have hg : 0 < Int.gcd N D := by
    apply Nat.pos_of_ne_zero; intro hz
    rw [Int.gcd_eq_zero_iff] at hz; omega
  have g0 : (0 : Int) < (Int.gcd N D : Int) := by omega
  have n1 : N.tdiv (Int.gcd N D) = N / (Int.gcd N D : Int) := Int.tdiv_eq_ediv_of_nonneg h3.1
  have d1 : D.tdiv (Int.gcd N D) = D / (Int.gcd N D : Int) := Int.tdiv_eq_ediv_of_nonneg (by omega)
  have b1 : 0 ≤ N / (Int.gcd N D : Int) := Int.ediv_nonneg h3.1 (by omega)
  have b2 : N / (Int.gcd N D : Int) ≤ N := Int.ediv_le_self _ h3.1
  have b3 : 0 ≤ D / (Int.gcd N D : Int) := Int.ediv_nonneg (by omega) (by omega)
  have b4 : D / (Int.gcd N D : Int) ≤ D := Int.ediv_le_self _ (by omega)
  refine ⟨by omega, ?_, ?_⟩
  · rw [n1, IntWalk.i64_in _ ⟨by omega, by omega⟩, e, Rat.num_divInt, Int.sign_eq_one_of_pos h1, Int.one_mul, Int.gcd_comm]
  · rw [d1, IntWalk.i64_in _ ⟨by omega, by omega⟩, e, Rat.den_divInt, if_neg (by omega), Int.gcd_comm D N]
    have : (D.natAbs : Int) = D := Int.natAbs_of_nonneg (by omega)
    rw [Int.natCast_ediv, this]
theorem p58 {a b : Int} {T : List (Int × Int)} {L : List (List (Int × Int))} (ok : SetOk a b T L) {e N D : Int} (P : At (pl T e) N D 1000000 3000) : r58 N D = some ((pl T e).num, ((pl T e).den : Int)) := by
  have h1 := P.pos; have h2 := P.le; have h3 := P.num
  obtain ⟨g0, g1, g2⟩ := low P
  unfold r58
  rw [p128 N D h3.1 (by omega) (by omega) (by omega), Option.bind_some, if_neg (by rw [decide_eq_true_eq]; omega), if_pos g0, if_pos g0, g1, g2]
/-- the turned table -/
theorem b54_run {a b : Int} {T : List (Int × Int)} {L : List (List (Int × Int))} (ok : SetOk a b T L) (k : Int) (v : Int × Int × (List (Int × Int)) × (List ((List (Int × Int)))) × (List (Int × Int)) × (List ((List (Int × Int)))) × Int) (hv : v.2.2.2.2.1 = T) :
    iterC (b54_1 k v) 1000000000 ([], 0) = (r123 (T.map fun x => (x.2, x.1)) k 1).bind fun v6 => (r124 v6.1 v6.2).bind fun v7 => (r125 v6.1 v6.2).bind fun v8 => some (v7, v8, 0) := by
  have htl := ok.tlen
  have hmap : ∀ i, (T.map fun x => (x.2, x.1)).take i = (T.take i).map fun x => (x.2, x.1) := fun i => by rw [List.map_take]
  refine iter_run T.length (b54_1 k v) (fun i => ((T.map fun x => (x.2, x.1)).take i, (i : Int))) _ (by omega) (fun i hi => ?_) ?_
  · unfold b54_1
    simp only [hv, ltN hi, if_true, if_pos (rgN hi), Int.toNat_natCast, wS i (by omega)]
    have hlen : ((T.map fun x => (x.2, x.1)).take i).length = i := by simp; omega
    rw [if_pos ⟨by rw [hlen]; omega, by rw [hlen]; omega⟩]
    have e : (T.map fun x => (x.2, x.1)).take (i + 1) = (T.map fun x => (x.2, x.1)).take i ++ [((T.getD i default).2, (T.getD i default).1)] := by
      rw [take_ext _ i (by simpa using hi)]
      congr 2
      simp [List.getD_eq_getElem?_getD, hi]
    rw [e]; rfl
  · unfold b54_1
    simp only [hv]
    rw [if_neg (by simp)]
    have : (T.map fun x => (x.2, x.1)).take T.length = T.map fun x => (x.2, x.1) := by rw [List.take_of_length_le (by simp)]
    rw [this]
theorem energies {a b : Int} {T : List (Int × Int)} {L : List (List (Int × Int))} (ok : SetOk a b T L) {k : Int} (hk : (T.getD 0 default).2 ≤ k ∧ k ≤ (T.getD (T.length - 1) default).2) :
    ∃ lo hi, ((r123 (T.map fun x => (x.2, x.1)) k 1).bind fun v6 => (r124 v6.1 v6.2).bind fun v7 => (r125 v6.1 v6.2).bind fun v8 => some (v7, v8, (0 : Int))) = some (lo, hi, 0) ∧ r60 a b T L k = some (lo, hi) := by
  have htl := ok.tlen
  have gm : ∀ i, i < T.length → (T.map fun x => (x.2, x.1)).getD i default = ((T.getD i default).2, (T.getD i default).1) := fun i hi => by simp [List.getD_eq_getElem?_getD, hi]
  have hS : SortK (T.map fun x => (x.2, x.1)) 200 3000 := by
    refine ⟨by simp; omega, fun i hi => ?_, fun i h0 hi => ?_⟩
    · rw [gm i (by simpa using hi)]; exact ok.yr i (by simpa using hi)
    · simp only [List.length_map] at hi
      rw [gm i hi, gm (i - 1) (by omega)]; exact (ok.yinc i h0 hi).1
  obtain ⟨j, hj, e1, _, h3, h4⟩ := ex_seg hS (by decide) (by decide) k 1 (by decide) (by decide)
  simp only [List.length_map] at hj h4
  have hjl : j < T.length := by
    apply Nat.lt_of_not_le; intro hle
    have := h3 (T.length - 1) (by omega)
    rw [gm _ (by omega)] at this
    omega
  -- the reference's index
  obtain ⟨q, hq1, hq2, hq3⟩ : ∃ q, q + 1 < T.length ∧ (∀ i, i < q → (T.getD (i + 1) default).2 < k) ∧ k ≤ (T.getD (q + 1) default).2 ∧ (if j = 0 then q = 0 else j = q + 1) := by
    by_cases hj0 : j = 0
    · have := h4 0 (by omega) (by omega)
      rw [gm 0 (by omega)] at this
      refine ⟨0, by omega, fun i hi => by omega, ?_, by rw [if_pos hj0]⟩
      have := (ok.yinc 1 (by omega) (by omega)).1
      simp only [Nat.sub_self, Nat.reduceAdd] at this ⊢
      omega
    · refine ⟨j - 1, by omega, fun i hi => ?_, ?_, by rw [if_neg hj0]; omega⟩
      · have := h3 (i + 1) (by omega)
        rw [gm _ (by omega)] at this; omega
      · have := h4 j (by omega) (by omega)
        rw [gm _ (by omega)] at this
        rw [show j - 1 + 1 = j by omega]; omega
  have hq4 := hq3.1
  have w1 : ∀ i : Nat, i < T.length → IntKind.i64.wrap ((i : Int) + 1 + 1) = ((i + 1 : Nat) : Int) + 1 := fun i hi => by
    rw [IntWalk.i64_in _ ⟨by omega, by omega⟩]; omega
  have hrun := iter_run q (b60_1 T k) (fun i => (i : Int) + 1) _ (by omega) (fun i hi => by
      have hp := hq2 i hi
      have e1 : ((i : Int) + 1).toNat = i + 1 := by omega
      rw [b60_1, if_pos ⟨by omega, by omega⟩, e1, if_pos (decide_eq_true hp), w1 i (by omega)]) (by
      have e1 : ((q : Int) + 1).toNat = q + 1 := by omega
      have e2 : IntKind.i64.wrap ((q : Int) + 1 - 1) = (q : Int) := by rw [IntWalk.i64_in _ ⟨by omega, by omega⟩]; omega
      rw [b60_1, if_pos ⟨by omega, by omega⟩, e1, if_neg (by rw [decide_eq_true_eq]; omega), e2, if_pos (rgN (show q < T.length by omega)), if_pos ⟨by omega, by omega⟩, Int.toNat_natCast])
  rw [show ((0 : Nat) : Int) + 1 = 1 by rfl] at hrun
  have e60 : r60 a b T L k = iterC (b60_1 T k) 1000000000 1 := rfl
  rw [e60, hrun, e1, Option.bind_some]
  have a1 := ok.srt.rng (q + 1) (by omega)
  have a2 := ok.srt.rng q (by omega)
  have a3 := ok.srt.inc (q + 1) (by omega) (by omega)
  have a4 := ok.yr (q + 1) (by omega)
  have a5 := ok.yr q (by omega)
  have a6 := (ok.yinc (q + 1) (by omega) (by omega)).1
  rw [Nat.add_sub_cancel] at a3 a6
  have hlo : (T.getD q default).2 ≤ k := by
    by_cases h0 : q = 0
    · rw [h0]; exact hk.1
    · have := hq2 (q - 1) (by omega)
      rw [show q - 1 + 1 = q by omega] at this
      omega
  unfold segV
  rw [if_neg (by rw [List.length_map]; omega)]
  simp only [List.length_map]
  by_cases hj0 : j = 0
  · have hq0 : q = 0 := by have := hq3.2; rw [if_pos hj0] at this; exact this
    have hk0 : k = (T.getD 0 default).2 := by
      have := h4 0 (by omega) (by omega)
      rw [gm 0 (by omega)] at this; omega
    rw [if_pos hj0, gm 0 (by omega), hq0]
    have hT1 := hq3.1
    rw [hq0] at a1 a2 a3 a4 a5 a6 hT1
    have hkk : k - (T.getD 0 default).2 = 0 := by omega
    rw [hkk]
    generalize (T.getD (0 + 1) default).1 = x1 at *
    generalize (T.getD 0 default).1 = x0 at *
    generalize (T.getD (0 + 1) default).2 = y1 at *
    generalize (T.getD 0 default).2 = y0 at *
    have z0 : IntKind.i64.wrap 0 = 0 := by decide
    have z1 : IntKind.i64.wrap (y1 - y0) = y1 - y0 := IntWalk.i64_in _ ⟨by omega, by omega⟩
    have f1 : r124 x0 1 = some x0 := by rw [p124 x0 1 (by omega) (by omega) (by omega), Int.ediv_one]
    have f2 : r125 x0 1 = some x0 := by
      unfold r125
      rw [IntWalk.i64_in (0 - x0) ⟨by omega, by omega⟩, p124 _ 1 (by omega) (by omega) (by omega), Int.ediv_one, Option.bind_some, IntWalk.i64_in _ ⟨by omega, by omega⟩]
      congr 1; omega
    have f3 : r129 0 (y1 - y0) = some 0 := by rw [p129 0 _ (by omega) (by omega) (by omega), Int.zero_ediv]
    have f4 : r130 0 (y1 - y0) = some 0 := by
      unfold r130
      rw [show (0 : Int) - 0 = 0 from rfl, z0, f3, Option.bind_some, show (0 : Int) - 0 = 0 from rfl, z0]
    refine ⟨x0, x0, ?_, ?_⟩
    · rw [f1, f2]; rfl
    · rw [z0, Int.mul_zero, z0, z1, f3, f4]
      simp only [Option.bind_some, Int.add_zero]
      rw [IntWalk.i64_in x0 ⟨by omega, by omega⟩]
  · have hjq : j = q + 1 := by have := hq3.2; rw [if_neg hj0] at this; exact this
    subst hjq
    rw [if_neg (by omega), if_neg (by omega), Nat.add_sub_cancel, gm q (by omega), gm (q + 1) (by omega)]
    have hk1 := hq3.1
    generalize (T.getD (q + 1) default).1 = x1 at *
    generalize (T.getD q default).1 = x0 at *
    generalize (T.getD (q + 1) default).2 = y1 at *
    generalize (T.getD q default).2 = y0 at *
    simp only [Int.mul_one]
    have w2 : IntKind.i64.wrap (y1 - y0) = y1 - y0 := IntWalk.i64_in _ ⟨by omega, by omega⟩
    have w3 : IntKind.i64.wrap (x1 - x0) = x1 - x0 := IntWalk.i64_in _ ⟨by omega, by omega⟩
    have w4 : IntKind.i64.wrap y0 = y0 := IntWalk.i64_in _ ⟨by omega, by omega⟩
    have w5 : IntKind.i64.wrap (k - y0) = k - y0 := IntWalk.i64_in _ ⟨by omega, by omega⟩
    obtain ⟨m1, m2⟩ := mulB (x := x0) (y := y1 - y0) (X := 1000000) (Y := 3000) (by omega) (by omega) (by omega) (by omega)
    obtain ⟨m3, m4⟩ := mulB (x := x1 - x0) (y := k - y0) (X := 1000000) (Y := 3000) (by omega) (by omega) (by omega) (by omega)
    have w6 : IntKind.i64.wrap (x0 * (y1 - y0)) = x0 * (y1 - y0) := IntWalk.i64_in _ ⟨by omega, by omega⟩
    have w7 : IntKind.i64.wrap ((x1 - x0) * (k - y0)) = (x1 - x0) * (k - y0) := IntWalk.i64_in _ ⟨by omega, by omega⟩
    rw [w2, w3, w2, w4, w5, w6, w7]
    generalize hX : (x1 - x0) * (k - y0) = X at *
    have w8 : IntKind.i64.wrap (x0 * (y1 - y0) + X) = x0 * (y1 - y0) + X := IntWalk.i64_in _ ⟨by omega, by omega⟩
    rw [w8]
    have hd : 0 < y1 - y0 := by omega
    generalize hdd : y1 - y0 = D at *
    have q1 : (x0 * D + X) / D = x0 + X / D := by rw [Int.add_comm, Int.add_mul_ediv_right _ _ (by omega), Int.add_comm]
    have q2 : (0 - (x0 * D + X)) / D = -x0 + (0 - X) / D := by
      rw [show 0 - (x0 * D + X) = (0 - X) + (-x0) * D by rw [Int.neg_mul]; omega, Int.add_mul_ediv_right _ _ (by omega), Int.add_comm]
    have bX1 : 0 ≤ X / D := Int.ediv_nonneg m3 (by omega)
    have bX2 : X / D ≤ X := Int.ediv_le_self _ m3
    have bX3 : (0 - X) / D ≤ 0 := by
      have := Int.ediv_le_ediv hd (show 0 - X ≤ 0 by omega)
      rwa [Int.zero_ediv] at this
    have bX4 : -3000000000 ≤ (0 - X) / D := by
      rw [Int.le_ediv_iff_mul_le hd]
      have := Int.mul_le_mul_of_nonneg_left (show 1 ≤ D by omega) (show (0 : Int) ≤ 3000000000 by omega)
      omega
    have f1 : r124 (x0 * D + X) D = some (x0 + X / D) := by rw [p124 _ _ hd (by omega) (by omega), q1]
    have f2 : r125 (x0 * D + X) D = some (x0 - (0 - X) / D) := by
      unfold r125
      rw [IntWalk.i64_in (0 - (x0 * D + X)) ⟨by omega, by omega⟩, p124 _ _ hd (by omega) (by omega), q2, Option.bind_some, IntWalk.i64_in _ ⟨by omega, by omega⟩]
      congr 1; omega
    have f3 : r129 X D = some (X / D) := p129 _ _ hd (by omega) (by omega)
    have f4 : r130 X D = some (-((0 - X) / D)) := by
      unfold r130
      rw [IntWalk.i64_in (0 - X) ⟨by omega, by omega⟩, p129 _ _ hd (by omega) (by omega), Option.bind_some, IntWalk.i64_in _ ⟨by omega, by omega⟩]
      congr 1; omega
    refine ⟨x0 + X / D, x0 - (0 - X) / D, ?_, ?_⟩
    · rw [f1, f2]; rfl
    · rw [f3, f4, Option.bind_some, Option.bind_some]
      rw [IntWalk.i64_in (x0 + X / D) ⟨by omega, by omega⟩, IntWalk.i64_in (x0 + -((0 - X) / D)) ⟨by omega, by omega⟩]
      congr 2
def setE (a b : Int) (T : List (Int × Int)) (L : List (List (Int × Int))) : Int := (setupErrV a b T L).2
theorem p53 (a b : Int) (T : List (Int × Int)) (L : List (List (Int × Int))) (e : Int) (hT : T.length < 1000) (hn : L.length < 1000) (hL : ∀ x ∈ L, x.length < 1000) :
    r53 a b T L e = some (if setE a b T L = 0 then (if inT T e = true then ((pl T e).num, ((pl T e).den : Int), 0) else (0, 0, 2)) else (0, 0, setE a b T L)) := by
  unfold r53 setE
  rw [p101 a b T L hT hn hL, Option.bind_some]
  by_cases h : (setupErrV a b T L).2 = 0
  · have ok := setOk_of h
    rw [if_pos h, if_pos h]
    simp only
    rw [if_pos (by rfl), p120 a b T L T L e ok.tpos ok.tlt, Option.bind_some, p94, Option.bind_some]
    cases he : inT T e with
    | false => rfl
    | true =>
      obtain ⟨N, D, e1, P⟩ := p121 ok a b T L L e
      obtain ⟨g0, g1, g2⟩ := low P
      have q1 := P.pos; have q2 := P.le; have q3 := P.num
      rw [if_neg (by decide), e1, Option.bind_some, p122 N D q3.1 (by omega) (by omega) (by omega), Option.bind_some, if_pos g0, if_pos g0, g1, g2]
      rfl
  · rw [if_neg h, if_neg h]
    simp only
    rw [if_neg (by simpa using h), if_pos (by simpa using h)]
theorem p54 (a b : Int) (T : List (Int × Int)) (L : List (List (Int × Int))) (k : Int) (hT : T.length < 1000) (hn : L.length < 1000) (hL : ∀ x ∈ L, x.length < 1000) :
    ∃ lo hi c, r54 a b T L k = some (lo, hi, c) ∧ (setE a b T L = 0 → (if inR k (T.getD 0 default).2 (T.getD (T.length - 1) default).2 = true then c = 0 ∧ r60 a b T L k = some (lo, hi) else lo = 0 ∧ hi = 0 ∧ c = 2)) ∧ (setE a b T L ≠ 0 → lo = 0 ∧ hi = 0 ∧ c = setE a b T L) := by
  unfold r54 setE
  rw [p101 a b T L hT hn hL, Option.bind_some]
  by_cases h : (setupErrV a b T L).2 = 0
  · have ok := setOk_of h
    have htl := ok.tlen
    rw [if_pos h]
    simp only
    rw [if_pos (by rfl), wP T.length (by omega), wPn, if_pos ⟨by omega, by omega⟩, if_pos ⟨by omega, by omega⟩, p90, Option.bind_some, p94, Option.bind_some]
    cases hk : inR k (T.getD 0 default).2 (T.getD (T.length - 1) default).2 with
    | false => exact ⟨0, 0, 2, rfl, fun _ => by simp, fun h' => absurd h h'⟩
    | true =>
      obtain ⟨lo, hi, e1, e2⟩ := energies ok (inR_iff.1 hk)
      rw [if_neg (by decide), b54_run ok k _ rfl, e1]
      exact ⟨lo, hi, 0, rfl, fun _ => by rw [if_pos rfl]; exact ⟨rfl, e2⟩, fun h' => absurd h h'⟩
  · rw [if_neg h]
    simp only
    rw [if_neg (by simpa using h), if_pos (by simpa using h)]
    exact ⟨0, 0, _, rfl, fun h' => absurd h' h, fun _ => ⟨rfl, rfl, rfl⟩⟩
theorem p55 (a b : Int) (T : List (Int × Int)) (L : List (List (Int × Int))) (law e : Int) (hT : T.length < 1000) (hn : L.length < 1000) (hL : ∀ x ∈ L, x.length < 1000) :
    r55 a b T L law e = some (if setE a b T L = 0 then (if firstE (codeIf (inR law 0 ((L.length : Int) - 1)) 6) (codeIf (inT T e) 2) = 0 then (lossS T (L.getD law.toNat default) e, 0) else (0, firstE (codeIf (inR law 0 ((L.length : Int) - 1)) 6) (codeIf (inT T e) 2))) else (0, setE a b T L)) := by
  unfold r55 setE
  rw [p101 a b T L hT hn hL, Option.bind_some]
  by_cases h : (setupErrV a b T L).2 = 0
  · have ok := setOk_of h
    rw [if_pos h, if_pos h]
    simp only
    rw [if_pos (by rfl), p126 a b T L T L law hn, Option.bind_some, p120 a b T L T L e ok.tpos ok.tlt, Option.bind_some, p94, Option.bind_some, p91 _ (by simp), Option.bind_some, firstV2]
    by_cases hc : firstE (codeIf (inR law 0 ((L.length : Int) - 1)) 6) (codeIf (inT T e) 2) = 0
    · rw [if_neg (by simpa using hc), if_pos hc]
      have hl : inR law 0 ((L.length : Int) - 1) = true := by
        cases hr : inR law 0 ((L.length : Int) - 1) with
        | true => rfl
        | false => rw [hr] at hc; simp [firstE, codeIf] at hc
      rw [inR_iff] at hl
      rw [p127 ok e ⟨hl.1, by omega⟩, Option.bind_some]
    · rw [if_pos (by simpa using hc), if_neg hc]
  · rw [if_neg h, if_neg h]
    simp only
    rw [if_neg (by simpa using h), if_pos (by simpa using h)]
theorem tables (a b : Int) (T : List (Int × Int)) (L : List (List (Int × Int))) (e k law : Int) : r7 a b T L e k law = some true := by
  unfold r7
  rw [awake, Option.bind_some, if_neg (by simp), p15, Option.bind_some]
  by_cases hf : fewV T L = true
  · obtain ⟨h1, h2, h3⟩ := few_of hf
    rw [if_neg (by simp [hf]), p18 a b T L (by omega) (by omega) h3, Option.bind_some]
    simp only
    obtain ⟨lo, hi, c, q1, q2, q3⟩ := p54 a b T L k (by omega) (by omega) h3
    rw [p53 a b T L e (by omega) (by omega) h3, Option.bind_some, q1, Option.bind_some, p55 a b T L law e (by omega) (by omega) h3, Option.bind_some, p45 a b T L (by omega) h3, Option.bind_some]
    show (if (setE a b T L != 0) = true then _ else _) = _
    by_cases h : setE a b T L = 0
    · have ok := setOk_of h
      have htl := ok.tlen
      have q2' := q2 h
      rw [if_neg (by simpa using h), if_pos h, if_pos h, p56 a b T L e ok.tpos ok.tlt, Option.bind_some]
      have hl62 : ∀ he : inT T e = true, inR law 0 ((L.length : Int) - 1) = true → r62 a b T L law e = some (lossS T (L.getD law.toNat default) e) := fun he hl => by
        rw [inR_iff] at hl
        exact p62 ok ⟨hl.1, by omega⟩ he
      cases he : inT T e with
      | false =>
        simp only [Bool.false_eq_true, if_false]
        rw [if_neg (by decide), wP T.length (by omega), wPn, if_pos ⟨by omega, by omega⟩, if_pos ⟨by omega, by omega⟩, p59, Option.bind_some, p61 a b T L law (by omega)]
        simp only [Option.bind_some]
        cases hk : inR k (T.getD 0 default).2 (T.getD (T.length - 1) default).2 with
        | false =>
          rw [hk, if_neg (by decide)] at q2'
          obtain ⟨rfl, rfl, rfl⟩ := q2'
          cases hl : inR law 0 ((L.length : Int) - 1) <;> simp [codeIf, firstE]
        | true =>
          rw [hk, if_pos rfl] at q2'
          obtain ⟨rfl, q2''⟩ := q2'
          rw [q2'']
          cases hl : inR law 0 ((L.length : Int) - 1) <;> simp [codeIf, firstE]
      | true =>
        obtain ⟨N, D, e1, P⟩ := p57 ok a b L e he
        rw [if_pos rfl, if_pos rfl, e1, Option.bind_some]
        simp only
        rw [p58 ok P, gS, Option.getD_some, if_neg (by simp), wP T.length (by omega), wPn, if_pos ⟨by omega, by omega⟩, if_pos ⟨by omega, by omega⟩, p59, Option.bind_some, p61 a b T L law (by omega)]
        simp only [Option.bind_some]
        cases hk : inR k (T.getD 0 default).2 (T.getD (T.length - 1) default).2 with
        | false =>
          rw [hk, if_neg (by decide)] at q2'
          obtain ⟨rfl, rfl, rfl⟩ := q2'
          cases hl : inR law 0 ((L.length : Int) - 1) with
          | false => simp [codeIf, firstE]
          | true => rw [hl62 he hl]; simp [codeIf, firstE]
        | true =>
          rw [hk, if_pos rfl] at q2'
          obtain ⟨rfl, q2''⟩ := q2'
          rw [q2'']
          cases hl : inR law 0 ((L.length : Int) - 1) with
          | false => simp [codeIf, firstE]
          | true => rw [hl62 he hl]; simp [codeIf, firstE]
    · obtain ⟨rfl, rfl, rfl⟩ := q3 h
      rw [if_pos (by simpa using h), if_neg h, if_neg h]
      show some (((((((setE a b T L == setE a b T L) && _) && _) && _) && _) && _)) = _
      simp
      rfl
  · have : fewV T L = false := by simpa using hf
    simp [this]
end Go.Proofs.Ytcbiiijnaeibhaa

/- FieldReciprocal as a plain law. -/
import Derived.Test.YtagnplbfdaifkaaFieldRp
import Derived.Test.YtagnplbfdaifkaaF14
set_option linter.unusedVariables false
set_option linter.unusedSimpArgs false
namespace Go.Proofs.Ytagnplbfdaifkaa
open Go.Abs
set_option maxHeartbeats 2000000

theorem abs_of {x g y : Int} (e : x = g * y) (hg : g ≠ 0) : y.natAbs ≤ x.natAbs ∧ (y ≠ 0 → g.natAbs ≤ x.natAbs) := by
  have h : x.natAbs = g.natAbs * y.natAbs := by rw [e, Int.natAbs_mul]
  rw [h]
  exact ⟨Nat.le_mul_of_pos_left _ (by omega), fun hy => Nat.le_mul_of_pos_right _ (by omega)⟩
theorem stepRe {T : Int} {L : List (Int × Int × Int)} {f : Int} {H : List Bool} {m j : Nat} (hj : j < L.length) (hL : L.length ≤ 4) (hH : H.length ≤ 4) {A B C D g a b c d e1 e2 : Int} {V : List (Int × Int)} {X : List Int} {vs : List (Int × Int)}
    (h9 : r21 T L f H m j = some (A, B, C, D, 0)) (h10 : r21 T L f H j m = some (A, B, C, D, 0)) (hv : V.getD 0 default = (c, d)) (hV : 0 < V.length) (ea : a = g * A) (eb : b = g * B) (ec : c = g * C) (ed : d = g * D) (hg : g ≠ 0)
    (ba : Bd 70295680 (a, b)) (bc : Bd 283362561 (c, d)) (hn : ¬ (c = 0 ∧ d = 0)) (hvs : vs.length ≤ 10) :
    b5_1 T L f H m (V, e1) (X, e2) (vs, j) = .next (vs ++ [(a, b)], ((j + 1 : Nat) : Int)) := by
  obtain ⟨b1, b2, b3, b4⟩ := ba
  obtain ⟨c1, c2, c3, c4⟩ := bc
  simp only [] at b1 b2 b3 b4 c1 c2 c3 c4
  have aA := abs_of ea hg
  have aB := abs_of eb hg
  have aC := abs_of ec hg
  have aD := abs_of ed hg
  have rA : inR A (-1099511627776) 1099511627776 = true := inR_iff.2 ⟨by omega, by omega⟩
  have rB : inR B (-1099511627776) 1099511627776 = true := inR_iff.2 ⟨by omega, by omega⟩
  have rC : inR C (-1073741824) 1073741824 = true := inR_iff.2 ⟨by omega, by omega⟩
  have rD : inR D (-1073741824) 1073741824 = true := inR_iff.2 ⟨by omega, by omega⟩
  have ra : inR a (-1125899906842624) 1125899906842624 = true := inR_iff.2 ⟨by omega, by omega⟩
  have rb : inR b (-1125899906842624) 1125899906842624 = true := inR_iff.2 ⟨by omega, by omega⟩
  have wc : IntKind.i64.wrap (g * C) = c := by rw [← ec]; exact wI (by omega) (by omega)
  have wd : IntKind.i64.wrap (g * D) = d := by rw [← ed]; exact wI (by omega) (by omega)
  have wa : IntKind.i64.wrap (g * A) = a := by rw [← ea]; exact wI (by omega) (by omega)
  have wb : IntKind.i64.wrap (g * B) = b := by rw [← eb]; exact wI (by omega) (by omega)
  have hz : (0 : Nat) ≤ 0 ∧ (0 : Int) < (V.length : Int) := ⟨Nat.le_refl 0, by omega⟩
  have hlen : (vs.length + 1) * 16 ≤ 140737488355328 ∧ vs.length + 1 ≤ 9223372036854775807 := ⟨by omega, by omega⟩
  simp only [b5_1, ltN hj, if_true, p19 T L (by omega), p20 f H (by omega), h9, h10, bindC, p33, rA, rB, rC, rD, hv, Option.isSome_some, Option.getD_some, implies_true, wS j (by omega), if_pos hz, hz]
  by_cases hC : C = 0
  · have hc0 : c = 0 := by rw [ec, hC, Int.mul_zero]
    have hD : D ≠ 0 := by
      intro h
      exact hn ⟨hc0, by rw [ed, h, Int.mul_zero]⟩
    have gB := aD.2 hD
    have wt : IntKind.i64.wrap (d.tdiv D) = g := by
      have e : d.tdiv D = g := by rw [ed]; exact Int.mul_tdiv_cancel g hD
      rw [e]; exact wI (by omega) (by omega)
    have rg : inR g (-1073741824) 1073741824 = true := inR_iff.2 ⟨by omega, by omega⟩
    subst hC
    simp only [wt, rg, wc, wd, wa, wb, ra, rb, if_pos hlen, if_pos hD]
    simp [hD]
  · have gB := aC.2 hC
    have wt : IntKind.i64.wrap (c.tdiv C) = g := by
      have e : c.tdiv C = g := by rw [ec]; exact Int.mul_tdiv_cancel g hC
      rw [e]; exact wI (by omega) (by omega)
    have rg : inR g (-1073741824) 1073741824 = true := inR_iff.2 ⟨by omega, by omega⟩
    simp only [wt, rg, wc, wd, wa, wb, ra, rb, if_pos hlen, if_pos hC]
    simp [hC]
theorem stepR2 {L : List (Int × Int × Int)} {m k : Nat} (hk : k < L.length) (hL : L.length ≤ 4) {V vs : List (Int × Int)} {X : List Int} {e1 e2 e3 c x : Int} {cur nx w0 w1 V0 : Int × Int}
    (h1 : (L.getD k default).1 = c) (h2 : vs.getD k default = w1) (h3 : X.getD k default = x) (h4 : V.getD 0 default = V0) (h0 : 0 < k → vs.getD (k - 1) default = w0) (h0' : k = 0 → w0 = (0, 0)) (hvs : vs.length = L.length) (hX : X.length = L.length) (hV : 0 < V.length)
    (hn1 : nx.1 = cur.1 + c * w1.1 - (if k = m then V0.1 else 0)) (hn2 : nx.2 = cur.2 + c * w1.2 - (if k = m then V0.2 else 0)) (hw1 : w0.1 - w1.1 = -(x * nx.2)) (hw2 : w0.2 - w1.2 = x * nx.1)
    (bc : 1 ≤ c ∧ c ≤ 4) (bx : 1 ≤ x ∧ x ≤ 32) (bcur : Bd 700000000000000 cur) (bnx : Bd 700000000000000 nx) (bw0 : Bd 70295680 w0) (bw1 : Bd 70295680 w1) (bV : Bd 283362561 V0) :
    b5_2 L m (V, e1) (X, e2) (vs, e3) ((k : Int), cur.1, cur.2) = .next ((k : Int) - 1, nx.1, nx.2) := by
  obtain ⟨c1, c2, c3, c4⟩ := bcur
  obtain ⟨n1, n2, n3, n4⟩ := bnx
  obtain ⟨w1a, w2a, w3a, w4a⟩ := bw0
  obtain ⟨w1b, w2b, w3b, w4b⟩ := bw1
  obtain ⟨v1, v2, v3, v4⟩ := bV
  have m1 := mulB (by omega) bc.2 w1b w2b
  have m2 := mulB (by omega) bc.2 w3b w4b
  have m3 := mulB (by omega) bx.2 n1 n2
  have m4 := mulB (by omega) bx.2 n3 n4
  have q1 : IntKind.i64.wrap (c * w1.1) = c * w1.1 := wI (by omega) (by omega)
  have q2 : IntKind.i64.wrap (c * w1.2) = c * w1.2 := wI (by omega) (by omega)
  have q3 : IntKind.i64.wrap (cur.1 + c * w1.1) = cur.1 + c * w1.1 := wI (by omega) (by omega)
  have q4 : IntKind.i64.wrap (cur.2 + c * w1.2) = cur.2 + c * w1.2 := wI (by omega) (by omega)
  have q5 : IntKind.i64.wrap (0 - x) = 0 - x := wI (by omega) (by omega)
  have q6 : IntKind.i64.wrap ((0 - x) * nx.2) = w0.1 - w1.1 := by
    rw [Int.zero_sub, Int.neg_mul, ← hw1]; exact wI (by omega) (by omega)
  have q7 : IntKind.i64.wrap (x * nx.1) = w0.2 - w1.2 := by rw [← hw2]; exact wI (by omega) (by omega)
  have q8 : IntKind.i64.wrap (w0.1 - w1.1) = w0.1 - w1.1 := wI (by omega) (by omega)
  have q9 : IntKind.i64.wrap (w0.2 - w1.2) = w0.2 - w1.2 := wI (by omega) (by omega)
  have q10 : IntKind.i64.wrap ((k : Int) - 1) = (k : Int) - 1 := wI (by omega) (by omega)
  have q13 : IntKind.i64.wrap nx.1 = nx.1 := wI (by omega) (by omega)
  have q14 : IntKind.i64.wrap nx.2 = nx.2 := wI (by omega) (by omega)
  have hd : decide ((k : Int) ≥ 0) = true := by simp
  have hkv : k < vs.length := by omega
  have hkX : k < X.length := by omega
  have hz : (0 : Nat) ≤ 0 ∧ (0 : Int) < (V.length : Int) := ⟨Nat.le_refl 0, by omega⟩
  by_cases hm : k = m
  · rw [if_pos hm] at hn1 hn2
    have em : ((k : Int) == (m : Int)) = true := by simp [hm]
    have q11 : IntKind.i64.wrap (cur.1 + c * w1.1 - V0.1) = nx.1 := by rw [← hn1]; exact wI (by omega) (by omega)
    have q12 : IntKind.i64.wrap (cur.2 + c * w1.2 - V0.2) = nx.2 := by rw [← hn2]; exact wI (by omega) (by omega)
    by_cases hk0 : 0 < k
    · have g0 := h0 hk0
      have e8 : (k : Int) - 1 = ((k - 1 : Nat) : Int) := by omega
      have hk1 : k - 1 < vs.length := by omega
      have q15 : IntKind.i64.wrap ((k - 1 : Nat) : Int) = ((k - 1 : Nat) : Int) := wI (by omega) (by omega)
      have hd2 : decide ((k : Int) > 0) = true := by simp; omega
      simp only [b5_2, hd, if_true, if_pos (rgN hk), if_pos (rgN hkv), if_pos (rgN hkX), Int.toNat_natCast, h1, h2, h3, h4, q1, q2, r34, bindC, q3, q4, em, if_pos hz, r35, q11, q12, hd2, q10, q13, q14, q15, e8, if_pos (rgN hk1), g0, q5, q6, q7, q8, q9]
      simp
    · have ek : k = 0 := by omega
      have g0 := h0' ek
      have hd2 : decide ((k : Int) > 0) = false := by simp; omega
      rw [g0] at q6 q7 q8 q9
      simp only [b5_2, hd, if_true, if_pos (rgN hk), if_pos (rgN hkv), if_pos (rgN hkX), Int.toNat_natCast, h1, h2, h3, h4, q1, q2, r34, bindC, q3, q4, em, if_pos hz, r35, q11, q12, hd2, q10, q13, q14, q5, q6, q7, q8, q9, Bool.false_eq_true, if_false]
      simp
  · rw [if_neg hm] at hn1 hn2
    have em : ((k : Int) == (m : Int)) = false := by simp; omega
    have hn1 : cur.1 + c * w1.1 = nx.1 := by omega
    have hn2 : cur.2 + c * w1.2 = nx.2 := by omega
    by_cases hk0 : 0 < k
    · have g0 := h0 hk0
      have e8 : (k : Int) - 1 = ((k - 1 : Nat) : Int) := by omega
      have hk1 : k - 1 < vs.length := by omega
      have q15 : IntKind.i64.wrap ((k - 1 : Nat) : Int) = ((k - 1 : Nat) : Int) := wI (by omega) (by omega)
      have hd2 : decide ((k : Int) > 0) = true := by simp; omega
      simp only [b5_2, hd, if_true, if_pos (rgN hk), if_pos (rgN hkv), if_pos (rgN hkX), Int.toNat_natCast, h1, h2, h3, h4, q1, q2, r34, bindC, q3, q4, em, if_pos hz, r35, hn1, hn2, hd2, q10, q13, q14, q15, e8, if_pos (rgN hk1), g0, q5, q6, q7, q8, q9, Bool.false_eq_true, if_false]
      simp
    · have ek : k = 0 := by omega
      have g0 := h0' ek
      have hd2 : decide ((k : Int) > 0) = false := by simp; omega
      rw [g0] at q6 q7 q8 q9
      simp only [b5_2, hd, if_true, if_pos (rgN hk), if_pos (rgN hkv), if_pos (rgN hkX), Int.toNat_natCast, h1, h2, h3, h4, q1, q2, r34, bindC, q3, q4, em, if_pos hz, r35, hn1, hn2, hd2, q10, q13, q14, q5, q6, q7, q8, q9, Bool.false_eq_true, if_false]
      simp
/-- the voltages at all nodes -/
def tL (cs xs : List Int) (m n : Nat) : List (Int × Int) := (List.range n).map (fun k => tnum cs xs m k)
theorem tL_len (cs xs : List Int) (m n : Nat) : (tL cs xs m n).length = n := by simp [tL]
theorem tL_succ (cs xs : List Int) (m n : Nat) : tL cs xs m (n + 1) = tL cs xs m n ++ [tnum cs xs m n] := by
  simp [tL, List.range_succ]
theorem tL_get (cs xs : List Int) {m n k : Nat} (h : k < n) : (tL cs xs m n).getD k default = tnum cs xs m k := by
  simp only [tL, List.getD_eq_getElem?_getD, List.getElem?_map, List.getElem?_range h]; rfl
theorem p28 (T : Int) (L : List (Int × Int × Int)) (f : Int) (H : List Bool) : r28 T L f H = some (if bothE T L f H = 0 then (reactV f L H, 0) else ([], bothE T L f H)) := by
  unfold r28
  rw [p83, Option.bind_some]
  by_cases h : bothE T L f H = 0
  · simp only [if_pos h]
  · simp only [if_neg h]
theorem p32' (T : Int) (L : List (Int × Int × Int)) (f : Int) (H : List Bool) (hb : bothE T L f H = 0) : r32 T L f H = some ((solV (condsV L) (reactV f L H)).1, 0) := by
  unfold r32
  rw [p83, Option.bind_some, if_pos hb, if_neg (by simp), p84 (ok_of hb).ladr (ok_of hb).len4.1 (ok_of hb).len4.2]; rfl
theorem reciprocal (T : Int) (L : List (Int × Int × Int)) (f : Int) (H : List Bool) (a : Int) : r5 T L f H a = some true := by
  unfold r5
  rw [awake, Option.bind_some, if_neg (by simp), p22, Option.bind_some]
  by_cases hb : bothE T L f H = 0
  · have ok := ok_of hb
    have hp := ok.lad.pos
    have hle := ok.lad.le
    have h := ok.ladr
    have hl := ok.len4
    have hcl := condsV_len L
    rw [p24 T L a (by omega), gS]
    simp only [Option.getD_some]
    cases ha : inR a 0 ((L.length : Int) - 1) with
    | false =>
      rw [if_pos (by simp [codeIf])]
    | true =>
      have ia := inR_iff.1 ha
      obtain ⟨m, rfl⟩ : ∃ m : Nat, a = m := ⟨a.toNat, by omega⟩
      have hm : m < L.length := by omega
      have hm' : m < (condsV L).length := by omega
      obtain ⟨l1, l2⟩ := solV_len (condsV L) (reactV f L H) h.len
      have g0 := solV_get h.len 0 (by omega)
      have hz := v0_nz h
      have e1 : IntKind.i64.wrap ((L.length : Int) + 1) = ((L.length + 1 : Nat) : Int) := by rw [wI (by omega) (by omega)]; rfl
      have hlr : (reactV f L H).length = L.length := by rw [h.len, hcl]
      have hH := ok.hot
      rw [if_neg (by simp [codeIf, hb]), p19 T L (by omega), Option.bind_some, p20 f H (by omega), Option.bind_some, p32' _ _ _ _ hb, Option.bind_some, p28, if_pos hb, Option.bind_some, e1]
      have hz0 : (0 : Nat) ≤ 0 ∧ (0 : Int) < ((solV (condsV L) (reactV f L H)).1.length : Int) := ⟨Nat.le_refl 0, by omega⟩
      rw [if_pos (fun _ => hz0), if_neg (by
        rw [g0]
        have : ((vV (condsV L) (reactV f L H) 0).1 == 0 && (vV (condsV L) (reactV f L H) 0).2 == 0) = false := by
          rw [Bool.eq_false_iff]
          intro hh
          simp only [Bool.and_eq_true, beq_iff_eq] at hh
          exact hz hh
        rw [this]
        simp; omega)]
      refine iter_run L.length _ (fun j => (tL (condsV L) (reactV f L H) m j, (j : Int))) (some true) (by omega) (fun j hj => ?_) ?_
      · have hj' : j < (condsV L).length := by omega
        have h9 := p21 hb hm hj
        have h10 := p21 hb hj hm
        rw [trV_comm _ _ j m] at h10
        obtain ⟨g, hg, _, ea, eb, ec, ed⟩ := redV_spec (c := (vV (condsV L) (reactV f L H) 0).1) (d := (vV (condsV L) (reactV f L H) 0).2) (tnum_nz h hm' hj')
        rw [tL_succ]
        exact stepRe hj hle (by omega) h9 h10 g0 (by omega) ea eb ec ed hg (tnum_bd h hl.2 hm' hj') (vVB h hl.2 0).1 hz (by rw [tL_len]; omega)
      · unfold b5_1
        rw [if_neg (by simp)]
        simp only []
        have e2 : IntKind.i64.wrap ((L.length : Int) - 1) = (L.length : Int) - 1 := wI (by omega) (by omega)
        rw [e2]
        congr 1
        have key := iter_run L.length (b5_2 L m ((solV (condsV L) (reactV f L H)).1, 0) (reactV f L H, 0) (tL (condsV L) (reactV f L H) m L.length, (L.length : Int))) (fun i => (((L.length - i : Nat) : Int) - 1, (kK (condsV L) (reactV f L H) m (L.length - i)).1, (kK (condsV L) (reactV f L H) m (L.length - i)).2)) (some true) (by omega) (fun i hi => by
          obtain ⟨k, hk⟩ : ∃ k, k = L.length - (i + 1) := ⟨_, rfl⟩
          have hkL : k < L.length := by omega
          have hkc : k < (condsV L).length := by omega
          have hs := k_step h.len hm' hkc
          have hw := w_step h.len hm' hkc
          have e3 : L.length - i = k + 1 := by omega
          have e4 : L.length - (i + 1) = k := by omega
          have e5 : ((k + 1 : Nat) : Int) - 1 = (k : Int) := by omega
          simp only [e3, e4, e5]
          refine stepR2 (w0 := wK (condsV L) (reactV f L H) m k) (w1 := wK (condsV L) (reactV f L H) m (k + 1)) (V0 := vV (condsV L) (reactV f L H) 0) hkL hle (condsV_get L k hkL).symm ?_ rfl g0 (fun h0 => ?_) (fun h0 => by rw [h0]; exact w_zero _ _ _) (tL_len _ _ _ _) hlr (by omega) (by rw [hs]) (by rw [hs]) hw.1 hw.2 (h.cg k hkc) (h.xg k hkc) (kB h hl.2 hm' (by omega)) (kB h hl.2 hm' (by omega)) ?_ ?_ (vVB h hl.2 0).1
          · rw [tL_get _ _ hkL, tnum_w]
          · rw [tL_get _ _ (by omega), tnum_w]
            congr 1; omega
          · by_cases h0 : k = 0
            · rw [h0, w_zero]; exact ⟨by decide, by decide, by decide, by decide⟩
            · have := tnum_bd h hl.2 hm' (show k - 1 < (condsV L).length by omega)
              rwa [tnum_w, show k - 1 + 1 = k by omega] at this
          · rw [← tnum_w]; exact tnum_bd h hl.2 hm' hkc) (by
          simp only [Nat.sub_self]
          unfold b5_2
          rw [if_neg (by simp)])
        simp only [Nat.sub_zero] at key
        rw [← hcl, k_end h.len hm', hcl] at key
        exact key
  · rw [if_pos (by simp [hb]), if_pos (by simp [hb])]
end Go.Proofs.Ytagnplbfdaifkaa

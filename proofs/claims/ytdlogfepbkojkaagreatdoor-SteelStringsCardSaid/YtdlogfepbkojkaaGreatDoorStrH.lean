/- Strings: valid rules and states are parsed again; the law. -/
import Derived.Test.YtdlogfepbkojkaaGreatDoorF07
import Derived.Test.YtdlogfepbkojkaaGreatDoorStrG
set_option linter.unusedVariables false
set_option linter.unusedSimpArgs false
namespace Go.Proofs.YtdlogfepbkojkaaGreatDoor
open Go.Abs

theorem errs_ne {dir : Int} {L : List Kn} {v : Int × Int} (h : errs dir L = some v) : v.2 ≠ 0 := by
  have key : ∀ (k i : Nat), scanN (fun i => if errE dir L i = 0 then none else some ((i : Int), errE dir L i)) i k = some v → v.2 ≠ 0 := by
    intro k
    induction k with
    | zero => intro i h; cases h
    | succ k ih =>
      intro i h
      simp only [scanN] at h
      by_cases he : errE dir L i = 0
      · rw [if_pos he] at h; exact ih (i + 1) h
      · rw [if_neg he] at h
        obtain rfl := Option.some.inj h
        exact he
  exact key L.length 0 h
theorem map_ok {α : Type} [Inhabited α] {l : List α} {g : α → Kn} {dir : Int} (h : ∀ i, i < l.length → errE dir (l.map g) i = 0) : ∀ x ∈ l, kn1 (g x) = 0 := fun x hx => by
  obtain ⟨i, hi, rfl⟩ := List.mem_iff_getElem.1 hx
  have := errE_kn (h i hi)
  rw [map_getD l g hi] at this
  have e : l.getD i default = l[i] := by rw [List.getD_eq_getElem?_getD, List.getElem?_eq_getElem hi]; rfl
  rw [e] at this
  exact this

def Ok7 (k : List Int) : Prop := ∀ n ∈ k, 0 ≤ n ∧ n ≤ 1000000
section
variable {H : List (Int × Int × Int × Int)} {C : List (Int × Int × Int × Int × Int)} {Q : List (Int × Int × Int)} {T : List (Int × Int)} {a b c d : Int}
theorem rul_nums (h : rulE H C Q T a b c d = 0) : (∀ x ∈ H, Ok7 (i4 x)) ∧ (∀ x ∈ C, Ok7 (i5 x)) ∧ (∀ x ∈ Q, Ok7 (i3 x)) ∧ (∀ x ∈ T, Ok7 (i2 x)) ∧ Ok7 [a, b, c, d] := by
  unfold rulE rulV at h
  split at h
  · exact absurd h (by decide)
  · rename_i hl
    cases e1 : errs 1 (H.map kH) with
    | some u => rw [e1] at h; exact absurd h (errs_ne e1)
    | none => cases e2 : errs 0 (C.map kC) with
      | some u => rw [e1, e2] at h; exact absurd h (errs_ne e2)
      | none => cases e3 : errs (-1) (Q.map kQ) with
        | some u => rw [e1, e2, e3] at h; exact absurd h (errs_ne e3)
        | none => cases e4 : errs 0 (T.map kT) with
          | some u => rw [e1, e2, e3, e4] at h; exact absurd h (errs_ne e4)
          | none =>
            rw [e1, e2, e3, e4] at h
            have m1 := map_ok (fun i hi => errs_none e1 i (by rw [List.length_map]; exact hi))
            have m2 := map_ok (fun i hi => errs_none e2 i (by rw [List.length_map]; exact hi))
            have m3 := map_ok (fun i hi => errs_none e3 i (by rw [List.length_map]; exact hi))
            have m4 := map_ok (fun i hi => errs_none e4 i (by rw [List.length_map]; exact hi))
            have h0 : (finE (H.map kH) (C.map kC) (Q.map kQ) (T.map kT) a b c d).2 = 0 := h
            unfold finE at h0
            split at h0
            · exact absurd h0 (by decide)
            · have hh : hrdE a b c d = 0 := h0
              unfold hrdE at hh
              split at hh
              · rename_i hr
                simp only [Bool.and_eq_true] at hr
                have r1 := inR_iff.1 hr.1.1.1
                have r2 := inR_iff.1 hr.1.1.2
                have r3 := inR_iff.1 hr.1.2
                have r4 := inR_iff.1 hr.2
                refine ⟨fun x hx => ?_, fun x hx => ?_, fun x hx => ?_, fun x hx => ?_, ?_⟩
                · obtain ⟨k, s, o, _⟩ := kn1_zero (m1 x hx)
                  have s1 := shOk_iff.1 (s (x.2.1, x.2.2.1) (by simp [kH]))
                  intro n hn
                  simp only [i4, List.mem_cons, List.not_mem_nil, or_false] at hn
                  simp only [kH] at k o s1
                  rcases hn with rfl | rfl | rfl | rfl <;> omega
                · obtain ⟨k, s, o, _⟩ := kn1_zero (m2 x hx)
                  have s1 := shOk_iff.1 (s (x.2.1, x.2.2.1) (by simp [kC]))
                  have s2 := shOk_iff.1 (s (x.2.2.2.1, x.2.2.2.2) (by simp [kC]))
                  intro n hn
                  simp only [i5, List.mem_cons, List.not_mem_nil, or_false] at hn
                  simp only [kC] at k o s1 s2
                  rcases hn with rfl | rfl | rfl | rfl | rfl <;> omega
                · obtain ⟨k, s, o, _⟩ := kn1_zero (m3 x hx)
                  have s1 := shOk_iff.1 (s (x.2.1, x.2.2) (by simp [kQ]))
                  intro n hn
                  simp only [i3, List.mem_cons, List.not_mem_nil, or_false] at hn
                  simp only [kQ] at k o s1
                  rcases hn with rfl | rfl | rfl <;> omega
                · obtain ⟨k, s, o, _⟩ := kn1_zero (m4 x hx)
                  intro n hn
                  simp only [i2, List.mem_cons, List.not_mem_nil, or_false] at hn
                  simp only [kT] at k o
                  rcases hn with rfl | rfl <;> omega
                · intro n hn
                  simp only [List.mem_cons, List.not_mem_nil, or_false] at hn
                  rcases hn with rfl | rfl | rfl | rfl <;> omega
              · exact absurd hh (by decide)
end
theorem sta_nums {p a b m w g t : Int} (h : staE p a b m w g t = 0) : Ok7 [p, a, b, m, w, g, t] := by
  unfold staE at h
  split at h
  · rename_i h1
    simp only [Bool.and_eq_true] at h1
    have r1 := inR_iff.1 h1.1.1.1.1.1.1
    have r2 := inR_iff.1 h1.1.1.1.1.1.2
    have r3 := inR_iff.1 h1.1.1.1.1.2
    have r4 := inR_iff.1 h1.1.1.1.2
    have r5 := inR_iff.1 h1.1.1.2
    have r6 := inR_iff.1 h1.1.2
    have r7 := inR_iff.1 h1.2
    intro n hn
    simp only [List.mem_cons, List.not_mem_nil, or_false] at hn
    rcases hn with rfl | rfl | rfl | rfl | rfl | rfl | rfl <;> omega
  · exact absurd h (by decide)
/-- numbers joined and cut again -/
theorem itoa_wd {n : Int} (h1 : 0 ≤ n) (h2 : n ≤ 1000000) : Wd 7 (Lib.itoa n) ∧ wval (Lib.itoa n) = n := by
  obtain ⟨m, rfl⟩ := Int.eq_ofNat_of_zero_le h1
  rw [itoa_pos]
  obtain ⟨c, v, _⟩ := dd_canon m
  have e7 : (10 : Nat) ^ 6 = 1000000 := by decide
  refine ⟨⟨c, ?_⟩, by rw [wval, v]⟩
  by_cases hm : m < 1000000
  · exact dd_len m 6 (by omega)
  · obtain rfl : m = 1000000 := by omega
    decide +kernel
theorem wd_no {k : Nat} {w : List UInt8} (h : Wd k w) (c : UInt8) (hc : ¬ dig c) : c ∉ w := dig_no hc h.1.2.1
theorem wjn_cut {k : List Int} (h : Ok7 k) (hk : k ≠ []) : cut 32 (wjn k) = k.map Lib.itoa := jn_cut 32 _ (by simpa using hk) (fun x hx => by
  obtain ⟨n, hn, rfl⟩ := List.mem_map.1 hx
  exact wd_no (itoa_wd (h n hn).1 (h n hn).2).1 32 (by decide))
theorem wjn_good {k : List Int} (h : Ok7 k) (hk : k ≠ []) : GoodW 7 k.length (wjn k) ∧ wvals (wjn k) = k := by
  have hc := wjn_cut h hk
  refine ⟨⟨by rw [hc, List.length_map], fun w hw => ?_⟩, ?_⟩
  · rw [hc] at hw
    obtain ⟨n, hn, rfl⟩ := List.mem_map.1 hw
    exact (itoa_wd (h n hn).1 (h n hn).2).1
  · rw [wvals, hc, List.map_map]
    have : ∀ n ∈ k, (wval ∘ Lib.itoa) n = id n := fun n hn => (itoa_wd (h n hn).1 (h n hn).2).2
    rw [List.map_congr_left this, List.map_id]
theorem fmtK_good {L : List (List Int)} {n : Nat} (hn : n ≠ 0) (h : ∀ k ∈ L, k.length = n ∧ Ok7 k) : GoodK n (fmtK L) ∧ kvals (fmtK L) = L ∧ (47 : UInt8) ∉ fmtK L := by
  have ne : ∀ k ∈ L, k ≠ [] := fun k hk e => hn (by rw [← (h k hk).1, e]; rfl)
  have gw : ∀ k ∈ L, GoodW 7 n (wjn k) ∧ wvals (wjn k) = k := fun k hk => by
    have := wjn_good (h k hk).2 (ne k hk)
    rwa [(h k hk).1] at this
  by_cases e : L = []
  · subst e
    exact ⟨.inl rfl, by rw [kvals, if_pos (by rfl)], by simp [fmtK, jn]⟩
  · have hc : cut 59 (fmtK L) = L.map wjn := jn_cut 59 _ (by simpa using e) (fun x hx => by
      obtain ⟨k, hk, rfl⟩ := List.mem_map.1 hx
      exact goodW_no (gw k hk).1 (by decide) (by decide))
    have hne : fmtK L ≠ [] := fun e0 => by
      rw [e0] at hc
      have hl := congrArg List.length hc
      rw [List.length_map] at hl
      match L, e, hc with
      | k :: r, _, hc =>
        have : [] = wjn k := (List.cons.inj hc).1
        exact goodW_ne (gw k (by simp)).1 this.symm
    have hg : ∀ p ∈ cut 59 (fmtK L), GoodW 7 n p := fun p hp => by
      rw [hc] at hp
      obtain ⟨k, hk, rfl⟩ := List.mem_map.1 hp
      exact (gw k hk).1
    refine ⟨.inr hg, ?_, fun hm => ?_⟩
    · rw [kvals, if_neg hne, hc, List.map_map]
      have : ∀ k ∈ L, (wvals ∘ wjn) k = id k := fun k hk => (gw k hk).2
      rw [List.map_congr_left this, List.map_id]
    · obtain ⟨w, hw, hb⟩ := cut_has (c := 59) (by decide) _ hm
      exact goodW_no (hg w hw) (by decide) (by decide) hb
theorem back {α : Type} {f : α → List Int} {g : List Int → α} (h : ∀ x, g (f x) = x) (l : List α) : (l.map f).map g = l := by
  rw [List.map_map]
  have : ∀ x ∈ l, (g ∘ f) x = id x := fun x _ => h x
  rw [List.map_congr_left this, List.map_id]
theorem knots_ok {α : Type} {f : α → List Int} {n : Nat} (hf : ∀ x, (f x).length = n) {l : List α} (h : ∀ x ∈ l, Ok7 (f x)) : ∀ k ∈ l.map f, k.length = n ∧ Ok7 k := fun k hk => by
  obtain ⟨x, hx, rfl⟩ := List.mem_map.1 hk
  exact ⟨hf x, h x hx⟩
theorem round_r {H : List (Int × Int × Int × Int)} {C : List (Int × Int × Int × Int × Int)} {Q : List (Int × Int × Int)} {T : List (Int × Int)} {a b c d : Int} (h : rulE H C Q T a b c d = 0) (hl : (fmtR H C Q T a b c d).length ≤ 60000) : prV (fmtR H C Q T a b c d) = (H, C, Q, T, a, b, c, d, 0) := by
  obtain ⟨n1, n2, n3, n4, n5⟩ := rul_nums h
  obtain ⟨g1, k1, z1⟩ := fmtK_good (n := 4) (by decide) (knots_ok (f := i4) (fun _ => rfl) n1)
  obtain ⟨g2, k2, z2⟩ := fmtK_good (n := 5) (by decide) (knots_ok (f := i5) (fun _ => rfl) n2)
  obtain ⟨g3, k3, z3⟩ := fmtK_good (n := 3) (by decide) (knots_ok (f := i3) (fun _ => rfl) n3)
  obtain ⟨g4, k4, z4⟩ := fmtK_good (n := 2) (by decide) (knots_ok (f := i2) (fun _ => rfl) n4)
  obtain ⟨g5, k5⟩ := wjn_good n5 (by simp)
  have hc : cut 47 (fmtR H C Q T a b c d) = [fmtK (H.map i4), fmtK (C.map i5), fmtK (Q.map i3), fmtK (T.map i2), wjn [a, b, c, d]] := jn_cut 47 _ (by simp) (fun x hx => by
    simp only [List.mem_cons, List.not_mem_nil, or_false] at hx
    rcases hx with rfl | rfl | rfl | rfl | rfl
    · exact z1
    · exact z2
    · exact z3
    · exact z4
    · exact goodW_no g5 (by decide) (by decide))
  rw [prV_five hl hc, prP, if_pos ⟨g1, g2, g3, g4, g5⟩, k1, k2, k3, k4, k5, back (g := fourV) (fun _ => rfl), back (g := fiveV) (fun _ => rfl), back (g := triV) (fun _ => rfl), back (g := twoV) (fun _ => rfl)]
  show finR H C Q T a b c d = _
  rw [finR, if_pos h]
theorem round_s {p a b m w g t : Int} (h : staE p a b m w g t = 0) : psV (wjn [p, a, b, m, w, g, t]) = (p, a, b, m, w, g, t, 0) := by
  obtain ⟨g5, k5⟩ := wjn_good (sta_nums h) (by simp)
  have g5' : GoodW 7 7 (wjn [p, a, b, m, w, g, t]) := g5
  rw [psV, if_pos g5', k5]
  exact if_pos h
/-- the same rules -/
theorem self15 (H : List (Int × Int × Int × Int)) (C : List (Int × Int × Int × Int × Int)) (Q : List (Int × Int × Int)) (T : List (Int × Int)) (a b c d : Int) (nH : H.length ≤ 10000) (nC : C.length ≤ 10000) (nQ : Q.length ≤ 10000) (nT : T.length ≤ 10000) : r15 H C Q T a b c d H C Q T a b c d = some true := by
  have h4 : iterC (b15_4 T T) 1000000000 0 = some true := by
    refine iter_rn T.length (b15_4 T T) (fun i => (i : Int)) (some true) (by omega) (fun i hi => ?_) ?_
    · unfold b15_4
      rw [if_pos (by simpa using hi), if_pos (by omega), if_pos (by omega), if_neg (by simp), wI (by omega) (by omega)]; rfl
    · unfold b15_4
      rw [if_neg (by simp)]
  have h3 : iterC (b15_3 Q T Q T) 1000000000 0 = some true := by
    refine iter_rn Q.length (b15_3 Q T Q T) (fun i => (i : Int)) (some true) (by omega) (fun i hi => ?_) ?_
    · unfold b15_3
      rw [if_pos (by simpa using hi), if_pos (by omega), if_pos (by omega), if_neg (by simp), wI (by omega) (by omega)]; rfl
    · unfold b15_3
      rw [if_neg (by simp), h4]
  have h2 : iterC (b15_2 C Q T C Q T) 1000000000 0 = some true := by
    refine iter_rn C.length (b15_2 C Q T C Q T) (fun i => (i : Int)) (some true) (by omega) (fun i hi => ?_) ?_
    · unfold b15_2
      rw [if_pos (by simpa using hi), if_pos (by omega), if_pos (by omega), if_neg (by simp), wI (by omega) (by omega)]; rfl
    · unfold b15_2
      rw [if_neg (by simp), h3]
  unfold r15
  rw [if_neg (by simp)]
  refine iter_rn H.length (b15_1 H C Q T H C Q T) (fun i => (i : Int)) (some true) (by omega) (fun i hi => ?_) ?_
  · unfold b15_1
    rw [if_pos (by simpa using hi), if_pos (by omega), if_pos (by omega), if_neg (by simp), wI (by omega) (by omega)]; rfl
  · unfold b15_1
    rw [if_neg (by simp), h2]
theorem prV_lens (l : List UInt8) (hl : l.length ≤ 9000) : (prV l).1.length ≤ 10000 ∧ (prV l).2.1.length ≤ 10000 ∧ (prV l).2.2.1.length ≤ 10000 ∧ (prV l).2.2.2.1.length ≤ 10000 := by
  have bad : ∀ e, (badR e).1.length ≤ 10000 ∧ (badR e).2.1.length ≤ 10000 ∧ (badR e).2.2.1.length ≤ 10000 ∧ (badR e).2.2.2.1.length ≤ 10000 := fun e => by simp [badR]
  by_cases h : (cut 47 l).length = 5
  · obtain ⟨p0, p1, p2, p3, p4, e⟩ := five_cases _ h
    have hp : ∀ p ∈ cut 47 l, p.length ≤ 9000 := fun p hp => Nat.le_trans (cut_len 47 l p hp) hl
    rw [prV_five (by omega) e, prP]
    rw [e] at hp
    split
    · unfold finR
      split
      · have k0 := kvals_len p0
        have k1 := kvals_len p1
        have k2 := kvals_len p2
        have k3 := kvals_len p3
        have l0 := hp p0 (by simp)
        have l1 := hp p1 (by simp)
        have l2 := hp p2 (by simp)
        have l3 := hp p3 (by simp)
        simp only [List.length_map]
        omega
      · exact bad _
    · exact bad _
  · rw [prV_not (by omega) h]; exact bad _
/-- THE LAW -/
theorem strings_law (H : List (Int × Int × Int × Int)) (C : List (Int × Int × Int × Int × Int)) (Q : List (Int × Int × Int)) (T : List (Int × Int)) (a b c d p u v m w g e : Int) (t : ByteArray)
    (hH : ∀ x ∈ H, InK (i4 x)) (hC : ∀ x ∈ C, InK (i5 x)) (hQ : ∀ x ∈ Q, InK (i3 x)) (hT : ∀ x ∈ T, InK (i2 x)) (hh : InK [a, b, c, d]) (hs : InK [p, u, v, m, w, g, e]) : r3 H C Q T a b c d p u v m w g e t = some true := by
  unfold r3
  rw [awakeS, Option.bind_some, if_neg (by decide), p13, Option.bind_some]
  by_cases hf : ((!(decide (H.length ≤ 10 ∧ C.length ≤ 10 ∧ Q.length ≤ 10 ∧ T.length ≤ 10))) || (decide ((t.size : Int) > 200))) = true
  · rw [if_pos hf]
  · rw [if_neg hf]
    have hf' : (H.length ≤ 10 ∧ C.length ≤ 10 ∧ Q.length ≤ 10 ∧ T.length ≤ 10) ∧ t.size ≤ 200 := by
      simp only [Bool.or_eq_true, Bool.not_eq_true', decide_eq_false_iff_not, decide_eq_true_eq, not_or, Classical.not_not] at hf
      omega
    obtain ⟨⟨nH, nC, nQ, nT⟩, h200⟩ := hf'
    have hfl := fmtR_len hH hC hQ hT hh nH nC nQ nT
    rw [size_bl] at h200
    rw [← lb_bl t, p15 a b c d ⟨nH, nC, nQ, nT⟩, Option.bind_some]
    simp only
    obtain ⟨q1, q2, q3, q4⟩ := prV_lens (bl t) (by omega)
    have tail : ((r17 p u v m w g e).bind fun v16 => if (v16 != 0) = true then some true else (r10 (lb (wjn [p, u, v, m, w, g, e]))).bind fun v17 => some ((v17.2.2.2.2.2.2.2 == 0) && ((v17.1 == p) && ((v17.2.1 == u) && ((v17.2.2.1 == v) && ((v17.2.2.2.1 == m) && ((v17.2.2.2.2.1 == w) && ((v17.2.2.2.2.2.1 == g) && (v17.2.2.2.2.2.2.1 == e)))))))) ) = some true := by
      rw [p18, Option.bind_some]
      by_cases he : staE p u v m w g e = 0
      · have hwl := wjn_len hs
        rw [if_neg (by rw [he]; simp), s10 _ (by omega), Option.bind_some, round_s he]
        simp
      · rw [if_pos (by simpa using he)]
    rw [w6 hH hC hQ hT hh nH nC nQ nT, Option.bind_some, w8 hs, Option.bind_some, s9 _ (by omega), Option.bind_some, s10 _ (by omega), Option.bind_some, s11 _ (by omega), Option.bind_some, s12 _ (by omega), Option.bind_some, w13 hH hC hQ hT hh nH nC nQ nT, Option.bind_some, w14 hs, self15 _ _ _ _ _ _ _ _ q1 q2 q3 q4]
    rw [if_pos (by intro _; rfl), if_pos (by intro _; rfl), if_neg (by simp), p16', Option.bind_some]
    by_cases he : rulE H C Q T a b c d = 0
    · rw [if_pos (by rw [he]; rfl), s9 _ hfl, Option.bind_some, round_r he (by omega)]
      simp only
      rw [self15 _ _ _ _ _ _ _ _ (by omega) (by omega) (by omega) (by omega), if_pos (by intro _; rfl), if_neg (by simp)]
      exact tail
    · rw [if_neg (by simpa using he)]
      exact tail
end Go.Proofs.YtdlogfepbkojkaaGreatDoor

/- Strings: a valid set-up is parsed again; the law. -/
import Derived.Test.YthldpejmofhaoaaGreatDoorStrF
set_option linter.unusedVariables false
set_option linter.unusedSimpArgs false
namespace Go.Proofs.YthldpejmofhaoaaGreatDoor
open Go.Abs

def Bd (p : Int × Int) : Prop := (0 ≤ p.1 ∧ p.1 ≤ 9999999) ∧ 0 ≤ p.2 ∧ p.2 ≤ 9999999
theorem dd_len' (n : Nat) : ∀ k, n < 10 ^ (k + 1) → (Lib.decDigits n).length ≤ k + 1
  | 0, h => by rw [Lib.decDigits_one (by simpa using h)]; simp
  | k+1, h => by
    by_cases e : n < 10
    · rw [Lib.decDigits_one e]; simp
    · rw [dd_big e, List.length_append, List.length_singleton]
      have := dd_len' (n / 10) k (by rw [Nat.pow_succ] at h; omega)
      omega
theorem itoa_wd {n : Int} (h1 : 0 ≤ n) (h2 : n ≤ 9999999) : Wd 7 (Lib.itoa n) ∧ wval (Lib.itoa n) = n := by
  obtain ⟨m, rfl⟩ := Int.eq_ofNat_of_zero_le h1
  rw [itoa_pos]
  obtain ⟨c, v, _⟩ := dd_canon m
  exact ⟨⟨c, dd_len' m 6 (by omega)⟩, by rw [wval, v]⟩
theorem jn_no {c d : UInt8} (hcd : d ≠ c) : ∀ (l : List (List UInt8)), (∀ x ∈ l, d ∉ x) → d ∉ jn c l
  | [], _ => by simp [jn]
  | [x], h => by rw [jn]; exact h x (by simp)
  | x :: y :: r, h => by
    have h1 := h x (by simp)
    have h2 := jn_no hcd (y :: r) (fun z hz => h z (List.mem_cons_of_mem _ hz))
    rw [jn]
    intro hm
    rcases List.mem_append.mp hm with hm | hm
    · exact h1 hm
    · rcases List.mem_cons.mp hm with hm | hm
      · exact hcd hm
      · exact h2 hm
theorem pair_good {p : Int × Int} (h : Bd p) : GoodW 7 2 (pair p) ∧ pr2 (pair p) = p ∧ (44 : UInt8) ∉ pair p ∧ (59 : UInt8) ∉ pair p ∧ pair p ≠ [] := by
  obtain ⟨w1, v1⟩ := itoa_wd h.1.1 h.1.2
  obtain ⟨w2, v2⟩ := itoa_wd h.2.1 h.2.2
  have hno : ∀ c : UInt8, ¬ dig c → ∀ x ∈ [Lib.itoa p.1, Lib.itoa p.2], c ∉ x := fun c hc x hx => by
    simp only [List.mem_cons, List.not_mem_nil, or_false] at hx
    rcases hx with rfl | rfl
    · exact wd_no w1 c hc
    · exact wd_no w2 c hc
  have hc : cut 32 (pair p) = [Lib.itoa p.1, Lib.itoa p.2] := jn_cut 32 _ (by simp) (hno 32 (by decide))
  refine ⟨?_, ?_, jn_no (by decide) _ (hno 44 (by decide)), jn_no (by decide) _ (hno 59 (by decide)), by rw [pair_eq]; simp⟩
  · rw [pair_eq]; exact (good2 (wd_no w1 32 (by decide))).2 ⟨w1, w2⟩
  · rw [pr2, wvals, hc]
    show (wval (Lib.itoa p.1), wval (Lib.itoa p.2)) = p
    rw [v1, v2]
theorem prs_good {l : PL} (h : ∀ p ∈ l, Bd p) : okP (prs l) ∧ prsV (prs l) = l ∧ (59 : UInt8) ∉ prs l := by
  by_cases h0 : l = []
  · subst h0
    exact ⟨.inl rfl, rfl, by simp [prs, jn]⟩
  · have hc : cut 44 (prs l) = l.map pair := jn_cut 44 _ (by simpa using h0) (fun x hx => by
      obtain ⟨s, hs, rfl⟩ := List.mem_map.1 hx
      exact (pair_good (h s hs)).2.2.1)
    have hne : prs l ≠ [] := fun he => by
      rw [he] at hc
      cases l with
      | nil => exact h0 rfl
      | cons x r =>
        have h1 : cut 44 [] = [[]] := cut_none (by simp)
        rw [h1, List.map_cons] at hc
        exact (pair_good (h x (by simp))).2.2.2.2 (List.cons.inj hc).1.symm
    refine ⟨.inr fun p hp => ?_, ?_, jn_no (by decide) _ (fun x hx => by
      obtain ⟨s, hs, rfl⟩ := List.mem_map.1 hx
      exact (pair_good (h s hs)).2.2.2.1)⟩
    · rw [hc] at hp
      obtain ⟨s, hs, rfl⟩ := List.mem_map.1 hp
      exact (pair_good (h s hs)).1
    · rw [prsV, if_neg hne, hc, List.map_map]
      have : ∀ s ∈ l, (pr2 ∘ pair) s = id s := fun s hs => (pair_good (h s hs)).2.1
      rw [List.map_congr_left this, List.map_id]
theorem bd_all {l : PL} (h : ∀ i, i < l.length → Bd (l.getD i default)) : ∀ p ∈ l, Bd p := fun p hp => by
  obtain ⟨i, hi, rfl⟩ := List.mem_iff_getElem.1 hp
  have := h i hi
  simpa [List.getD_eq_getElem?_getD, hi] using this
theorem SetOk.bd {a b : Int} {T : PL} {L : List PL} (h : SetOk a b T L) : Bd (a, b) ∧ (∀ p ∈ T, Bd p) ∧ ∀ l ∈ L, ∀ p ∈ l, Bd p := by
  refine ⟨⟨⟨by have := h.cells; show 0 ≤ a; omega, by have := h.cells; show a ≤ _; omega⟩, by have := h.mix; show 0 ≤ b; omega, by have := h.mix; show b ≤ _; omega⟩, bd_all fun i hi => ?_, fun l hl => ?_⟩
  · have h1 := h.srt.rng i hi
    have h2 := h.yr i hi
    exact ⟨⟨by omega, by omega⟩, by omega, by omega⟩
  · obtain ⟨j, hj, rfl⟩ := List.mem_iff_getElem.1 hl
    have hk := h.laws j hj
    have e : L.getD j default = L[j] := by simp [List.getD_eq_getElem?_getD, hj]
    rw [e] at hk
    refine bd_all fun i hi => ?_
    have h1 := hk.srt.rng i hi
    have h2 := hk.yr i hi
    exact ⟨⟨by omega, by omega⟩, by omega, by omega⟩
theorem round {a b : Int} {T : PL} {L : List PL} (h : (setupErrV a b T L).2 = 0) (hl : (fmtS a b T L).length ≤ 60000) : Sm (fmtS a b T L) ∧ parseV (fmtS a b T L) = (a, b, T, L, 0) := by
  have hs := setOk_of h
  obtain ⟨h1, h2, h3⟩ := hs.bd
  have g0 := pair_good h1
  have gT := prs_good h2
  have gL : ∀ l ∈ L, _ := fun l hl => prs_good (h3 l hl)
  have hc : cut 59 (fmtS a b T L) = pair (a, b) :: prs T :: L.map prs := jn_cut 59 _ (by simp) (fun x hx => by
    rcases List.mem_cons.mp hx with rfl | hx
    · exact g0.2.2.2.1
    rcases List.mem_cons.mp hx with rfl | hx
    · exact gT.2.2
    · obtain ⟨s, hs, rfl⟩ := List.mem_map.1 hx
      exact (gL s hs).2.2)
  have eL : (L.map prs).map prsV = L := by
    rw [List.map_map]
    have : ∀ s ∈ L, (prsV ∘ prs) s = id s := fun s hs => (gL s hs).2.1
    rw [List.map_congr_left this, List.map_id]
  refine ⟨⟨?_, ?_⟩, ?_⟩
  · rw [hc, List.length_cons, List.length_cons, List.length_map]; have := hs.llen; omega
  · rw [hc]
    intro p hp
    rcases List.mem_cons.mp hp with rfl | hp
    · have h1 := prs_len (pair (a, b))
      have h2 := (itoa_wd (n := a) (by have := hs.cells; omega) (by have := hs.cells; omega)).1.2
      have h3 := (itoa_wd (n := b) (by have := hs.mix; omega) (by have := hs.mix; omega)).1.2
      have h4 : (pair (a, b)).length = (Lib.itoa a).length + ((Lib.itoa b).length + 1) := by rw [pair_eq, List.length_append, List.length_cons]
      omega
    rcases List.mem_cons.mp hp with rfl | hp
    · rw [gT.2.1]; have := hs.tlen; omega
    · obtain ⟨s, hs', rfl⟩ := List.mem_map.1 hp
      rw [(gL s hs').2.1]
      obtain ⟨j, hj, rfl⟩ := List.mem_iff_getElem.1 hs'
      have hk := hs.laws j hj
      have e : L.getD j default = L[j] := by simp [List.getD_eq_getElem?_getD, hj]
      rw [e] at hk
      have := hk.len; omega
  · have := parse_end hl hc g0.1 (fun p hp => by
      rcases List.mem_cons.mp hp with rfl | hp
      · exact gT.1
      · obtain ⟨s, hs, rfl⟩ := List.mem_map.1 hp
        exact (gL s hs).1) _ rfl
    rw [g0.2.1, gT.2.1, eL] at this
    rw [if_neg (by rw [h]; decide)] at this
    exact (Option.some.inj this).symm
theorem few_8 {T : PL} {L : List PL} (h : fewV T L = true) : ∀ x ∈ L, x.length ≤ 8 := by
  unfold fewV at h
  simp only [Bool.and_eq_true, decide_eq_true_eq, List.all_eq_true] at h
  exact h.2
theorem sm_small {l : List UInt8} (h : l.length ≤ 200) : Sm l := by
  refine ⟨?_, fun p hp => ?_⟩
  · have := cut_count 59 l; omega
  · have h1 := cut_len 59 l p hp
    have h2 := prs_len p
    omega
theorem parse_len {l : List UInt8} (hS : Sm l) : (parseV l).2.2.1.length < 100000 ∧ (parseV l).2.2.2.1.length < 100000 ∧ ∀ x ∈ (parseV l).2.2.2.1, x.length < 100000 := by
  have hz : ((([] : PL).length < 100000) ∧ (([] : List PL).length < 100000) ∧ ∀ x ∈ ([] : List PL), x.length < 100000) := ⟨by decide, by decide, by simp⟩
  obtain ⟨h1, h2⟩ := hS
  unfold parseV
  split
  · exact hz
  · split
    · rename_i hc
      split
      · have ht : ∀ p ∈ (cut 59 l).tail, (prsV p).length < 1000 := fun p hp => h2 p (List.mem_of_mem_tail hp)
        refine ⟨?_, ?_, fun x hx => ?_⟩
        · show (prsV ((cut 59 l).tail.headD [])).length < _
          cases hq : (cut 59 l).tail with
          | nil => exact absurd hq hc.1
          | cons q r =>
            have := ht q (by rw [hq]; simp)
            show (prsV q).length < _
            omega
        · show ((cut 59 l).tail.tail.map prsV).length < _
          rw [List.length_map, List.length_tail, List.length_tail]; omega
        · obtain ⟨p, hp, rfl⟩ := List.mem_map.1 hx
          have := ht p (List.mem_of_mem_tail hp)
          omega
      · exact hz
    · exact hz
end Go.Proofs.YthldpejmofhaoaaGreatDoor

/- Strings: pairs of numbers, by the program and by the reference. -/
import Derived.Test.YthldpejmofhaoaaGreatDoorF05
import Derived.Test.YthldpejmofhaoaaGreatDoorHeatP5
import Derived.Test.YthldpejmofhaoaaGreatDoorStrC
set_option linter.unusedVariables false
set_option linter.unusedSimpArgs false
namespace Go.Proofs.YthldpejmofhaoaaGreatDoor
open Go.Abs

theorem take_succ' {α : Type} (l : List α) (d : α) {i : Nat} (h : i < l.length) : l.take (i + 1) = l.take i ++ [l.getD i d] := by
  rw [List.take_add_one, List.getElem?_eq_getElem h, List.getD_eq_getElem?_getD, List.getElem?_eq_getElem h]; rfl
theorem mem_getDs {α : Type} {l : List α} {d : α} {i : Nat} (h : i < l.length) : l.getD i d ∈ l := by
  rw [List.getD_eq_getElem?_getD, List.getElem?_eq_getElem h]; exact List.getElem_mem h
theorem map_getD {l : List (List UInt8)} {i : Nat} (h : i < l.length) : (l.map lb).getD i default = lb (l.getD i []) := by
  rw [List.getD_eq_getElem?_getD, List.getElem?_map, List.getElem?_eq_getElem h, List.getD_eq_getElem?_getD, List.getElem?_eq_getElem h]; rfl
theorem wd_no {k : Nat} {w : List UInt8} (h : Wd k w) (c : UInt8) (hc : ¬ dig c) : c ∉ w := dig_no hc h.1.2.1
theorem n57 (l : List UInt8) (hl : l.length ≤ 60000) : ∃ v, r156 (lb l) = some v ∧ v.2 = decide (Wd 7 l) ∧ (v.2 = true → v.1 = wval l) := by
  unfold r156
  rw [a53 hl, Option.bind_some]
  have hw := word_code 7 (by decide) l
  by_cases h2 : (atoiE l).2 = true
  · refine ⟨((atoiE l).1, false), ?_, ?_, fun h => by cases h⟩
    · rw [h2]; rfl
    · symm
      rw [decide_eq_false_iff_not]
      intro hg
      have := (hw.2 hg).1
      rw [h2] at this; cases this
  · have h2' : (atoiE l).2 = false := by simpa using h2
    obtain ⟨b1, b2⟩ := atoiE_bd l h2'
    rw [a22 b1 b2, if_pos (by intro _; rfl)]
    have e : (decide ((some (itoaB (atoiE l).1)).getD default = lb l)) = decide (Lib.itoa (atoiE l).1 = l) := by
      rw [Option.getD_some, decide_eq_decide]; exact lb_inj
    rw [e, h2']
    refine ⟨_, rfl, ?_, fun h => ?_⟩
    · show ((((!false) && decide ((atoiE l).1 ≥ 0)) && decide (Lib.itoa (atoiE l).1 = l)) && decide (((lb l).size : Int) ≤ 7)) = _
      rw [Bool.eq_iff_iff, decide_eq_true_eq, Wd, ← hw, size_lb]
      simp only [Bool.and_eq_true, decide_eq_true_eq, Bool.not_false, true_and]
      constructor
      · rintro ⟨⟨g1, g2⟩, g3⟩; exact ⟨h2', g1, g2, by omega⟩
      · rintro ⟨_, g1, g2, g3⟩; exact ⟨⟨g1, g2⟩, by omega⟩
    · have hW : Wd 7 l := by
        have h : ((((!false) && decide ((atoiE l).1 ≥ 0)) && decide (Lib.itoa (atoiE l).1 = l)) && decide (((lb l).size : Int) ≤ 7)) = true := h
        rw [Bool.and_eq_true, Bool.and_eq_true, Bool.and_eq_true, decide_eq_true_eq, decide_eq_true_eq, decide_eq_true_eq, size_lb] at h
        exact hw.1 ⟨h2', h.1.1.2, h.1.2, by omega⟩
      exact atoi_wval (by decide) hW
theorem c27 (l : List UInt8) (c : UInt8) (hl : l.length ≤ 60000) :
    (c ∉ l ∧ r68 (lb l) ⟨#[c]⟩ = some (lb l, lb [], false)) ∨
    ∃ i, i < l.length ∧ c ∉ l.take i ∧ l = l.take i ++ c :: l.drop (i + 1) ∧ r68 (lb l) ⟨#[c]⟩ = some (lb (l.take i), lb (l.drop (i + 1)), true) := by
  have h91 : r221 (lb l) ⟨#[c]⟩ = some (Lib.indexByte l c) := rfl
  rcases cut_index (c := c) l with ⟨h1, h2⟩ | ⟨i, h1, h2, h3, h4⟩
  · refine .inl ⟨h2, ?_⟩
    unfold r68 r155
    rw [h91, h1]
    rfl
  · refine .inr ⟨i, h2, h3, h4, ?_⟩
    unfold r68 r155
    rw [h91, h1, Option.bind_some, if_pos (by simp), if_pos ⟨by omega, by omega, by rw [size_lb]; omega⟩]
    have hs : ((⟨#[c]⟩ : ByteArray).size : Int) = 1 := rfl
    rw [hs, wI (by omega) (by omega), if_pos ⟨by omega, by rw [size_lb]; omega, Int.le_refl _⟩, Int.toNat_natCast, show ((i : Int) + 1).toNat = i + 1 by omega, lb_extract, List.drop_zero, show i - 0 = i by omega, size_lb, lb_extract]
    have hd : (l.drop (i + 1)).take (l.length - (i + 1)) = l.drop (i + 1) := List.take_of_length_le (by rw [List.length_drop]; omega)
    rw [hd]
    rfl
/-- the two numbers of a string -/
def pr2 (l : List UInt8) : Int × Int := ((wvals l).getD 0 0, (wvals l).getD 1 0)
theorem good2 {a b : List UInt8} (ha : (32 : UInt8) ∉ a) : GoodW 7 2 (a ++ 32 :: b) ↔ Wd 7 a ∧ Wd 7 b := by
  rw [GoodW, cut_at a b ha]
  constructor
  · rintro ⟨h1, h2⟩
    have h3 : (cut 32 b).length = 1 := by simpa using h1
    refine ⟨h2 a (by simp), ?_⟩
    have h4 : cut 32 b = [b] := by
      by_cases h : (32 : UInt8) ∈ b
      · exfalso
        rcases cut_index (c := 32) b with ⟨_, g⟩ | ⟨i, _, _, g3, g4⟩
        · exact g h
        · rw [g4, cut_at _ _ g3] at h3
          have h5 := List.length_pos_iff.mpr (cut_ne 32 (b.drop (i + 1)))
          rw [List.length_cons] at h3; omega
      · exact cut_none h
    exact h2 b (by rw [h4]; simp)
  · rintro ⟨h1, h2⟩
    have h4 : cut 32 b = [b] := cut_none (wd_no h2 32 (by decide))
    rw [h4]
    refine ⟨rfl, fun w hw => ?_⟩
    simp only [List.mem_cons, List.not_mem_nil, or_false] at hw
    rcases hw with rfl | rfl
    · exact h1
    · exact h2
theorem t28 (l : List UInt8) (hl : l.length ≤ 60000) : ∃ v, r69 (lb l) = some v ∧ v.2.2 = decide (GoodW 7 2 l) ∧ (v.2.2 = true → (v.1, v.2.1) = pr2 l) := by
  unfold r69
  rcases c27 l 32 hl with ⟨h1, h2⟩ | ⟨i, h1, h2, h3, h4⟩
  · obtain ⟨u, u1, _⟩ := n57 l hl
    obtain ⟨w, w1, _⟩ := n57 [] (by decide)
    rw [h2, Option.bind_some]
    simp only
    rw [u1, Option.bind_some, w1, Option.bind_some]
    refine ⟨_, rfl, ?_, fun h => by simp at h⟩
    symm
    simp only [Bool.false_and]
    rw [decide_eq_false_iff_not, GoodW, cut_none h1]
    rintro ⟨h, _⟩
    simp at h
  · obtain ⟨u, u1, u2, u3⟩ := n57 (l.take i) (by rw [List.length_take]; omega)
    obtain ⟨w, w1, w2, w3⟩ := n57 (l.drop (i + 1)) (by rw [List.length_drop]; omega)
    rw [h4, Option.bind_some]
    simp only
    rw [u1, Option.bind_some, w1, Option.bind_some]
    have hG : GoodW 7 2 l ↔ Wd 7 (l.take i) ∧ Wd 7 (l.drop (i + 1)) := by
      have := good2 (b := l.drop (i + 1)) h2
      rwa [← h3] at this
    refine ⟨_, rfl, ?_, fun h => ?_⟩
    · show ((true && u.2) && w.2) = _
      rw [u2, w2, Bool.eq_iff_iff, decide_eq_true_eq, hG]
      simp
    · have h : ((true && u.2) && w.2) = true := h
      simp only [Bool.true_and, Bool.and_eq_true] at h
      show (u.1, w.1) = pr2 l
      have hw : Wd 7 (l.drop (i + 1)) := of_decide_eq_true (w2 ▸ h.2)
      have e : cut 32 l = [l.take i, l.drop (i + 1)] := by
        conv => lhs; rw [h3, cut_at _ _ h2, cut_none (wd_no hw 32 (by decide))]
      rw [pr2, wvals, e, u3 h.1, w3 h.2]; rfl
/-- a list of pairs -/
def okP (l : List UInt8) : Prop := l = [] ∨ ∀ p ∈ cut 44 l, GoodW 7 2 p
instance (l : List UInt8) : Decidable (okP l) := inferInstanceAs (Decidable (_ ∨ _))
def prsV (l : List UInt8) : List (Int × Int) := if l = [] then [] else (cut 44 l).map pr2
def prsR (l : List UInt8) : List (Int × Int) × Bool := if okP l then (prsV l, true) else ([], false)
theorem dec_nil (l : List UInt8) : (decide (lb l = (⟨#[]⟩ : ByteArray))) = decide (l = []) := by
  rw [decide_eq_decide, ba_nil]; exact lb_inj
theorem t30 (l : List UInt8) (hl : l.length ≤ 60000) : r71 (lb l) = some (prsR l) := by
  unfold r71
  rw [dec_nil]
  by_cases h0 : l = []
  · rw [if_pos (by simpa using h0), prsR, if_pos (.inl h0), prsV, if_pos h0]
  rw [if_neg (by simpa using h0)]
  refine iter_meas b71_1 (fun s => ∃ (r : List UInt8) (ws : List (List UInt8)), s = (lb r, ws.map pr2) ∧ r.length ≤ l.length ∧ ws ++ cut 44 r = cut 44 l ∧ ∀ w ∈ ws, GoodW 7 2 w) (fun s => s.1.size) (fun o => o = some (prsR l)) (fun s hs => ?_) 1000000000 _ ⟨l, [], rfl, Nat.le_refl _, rfl, by simp⟩ (by show l.length < 1000000000; omega)
  obtain ⟨r, ws, rfl, hr, hc, hg⟩ := hs
  have hws : ws.length ≤ 60001 := by
    have := congrArg List.length hc
    have := cut_len_le 44 l
    rw [List.length_append] at *; omega
  unfold b71_1
  simp only
  rw [a70]
  simp only [bindC]
  have hbad : ∀ p ∈ cut 44 l, ¬ GoodW 7 2 p → prsR l = ([], false) := fun p hp hb => by
    rw [prsR, if_neg]
    rintro (h | h)
    · exact h0 h
    · exact hb (h p hp)
  rcases cut_index (c := 44) r with ⟨h1, h2⟩ | ⟨i, h1, h2, h3, h4⟩
  · right
    have e : cut 44 l = ws ++ [r] := by rw [← hc, cut_none h2]
    obtain ⟨v, v1, v2, v3⟩ := t28 r (by omega)
    rw [h1, if_pos (by decide), v1, Option.bind_some]
    refine ⟨_, rfl, ?_⟩
    by_cases g : GoodW 7 2 r
    · have hv : v.2.2 = true := by rw [v2]; simpa using g
      rw [if_neg (by rw [hv]; simp), if_pos (by rw [List.length_map]; omega), v3 hv, prsR, if_pos (.inr fun p hp => by
        rw [e] at hp
        rcases List.mem_append.mp hp with hp | hp
        · exact hg p hp
        · rw [List.mem_singleton] at hp; rw [hp]; exact g), prsV, if_neg h0, e, List.map_append]; rfl
    · have hv : v.2.2 = false := by rw [v2]; simpa using g
      rw [if_pos (by rw [hv]; rfl), hbad r (by rw [e]; simp) g]
  · have e : cut 44 l = ws ++ r.take i :: cut 44 (r.drop (i + 1)) := by rw [← hc]; conv => lhs; rw [h4, cut_at _ _ h3]
    obtain ⟨v, v1, v2, v3⟩ := t28 (r.take i) (by rw [List.length_take]; omega)
    rw [h1, if_neg (by simp), show ((i : Int) + 0) = (i : Int) by omega, wI (a := (i : Int)) (by omega) (by omega), wI (a := (i : Int) + 1) (by omega) (by omega), if_pos ⟨by omega, by omega, by rw [size_lb]; omega⟩, show ((i : Int) + 1).toNat = i + 1 by omega, Int.toNat_natCast, lb_extract, List.drop_zero, show i - 0 = i by omega, v1]
    simp only
    by_cases g : GoodW 7 2 (r.take i)
    · left
      have hv : v.2.2 = true := by rw [v2]; simpa using g
      rw [if_neg (by rw [hv]; simp), if_pos (by rw [List.length_map]; omega), if_pos ⟨by omega, by rw [size_lb]; omega, Int.le_refl _⟩, size_lb, lb_extract, v3 hv]
      have hd : (r.drop (i + 1)).take (r.length - (i + 1)) = r.drop (i + 1) := List.take_of_length_le (by rw [List.length_drop]; omega)
      rw [hd]
      refine ⟨_, rfl, ⟨r.drop (i + 1), ws ++ [r.take i], ?_, by rw [List.length_drop]; omega, by rw [e]; simp, fun w hw => ?_⟩, by show (r.drop (i+1)).length < r.length; rw [List.length_drop]; omega⟩
      · rw [List.map_append]; rfl
      · rcases List.mem_append.mp hw with hw | hw
        · exact hg w hw
        · rw [List.mem_singleton] at hw; rw [hw]; exact g
    · right
      have hv : v.2.2 = false := by rw [v2]; simpa using g
      rw [if_pos (by rw [hv]; rfl)]
      exact ⟨_, rfl, by rw [hbad (r.take i) (by rw [e]; simp) g]⟩
end Go.Proofs.YthldpejmofhaoaaGreatDoor

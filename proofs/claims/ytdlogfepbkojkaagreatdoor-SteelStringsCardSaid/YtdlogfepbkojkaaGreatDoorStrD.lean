/- Strings: knots, states, by the program and by the reference. -/
import Derived.Test.YtdlogfepbkojkaaGreatDoorSteelS
import Derived.Test.YtdlogfepbkojkaaGreatDoorStrC
set_option linter.unusedVariables false
set_option linter.unusedSimpArgs false
namespace Go.Proofs.YtdlogfepbkojkaaGreatDoor
open Go.Abs

theorem wvals_len {k n : Nat} {p : List UInt8} (h : GoodW k n p) : (wvals p).length = n := by
  rw [wvals, List.length_map]; exact h.1
theorem a32 (l : List UInt8) (c : UInt8) (h : l.length ≤ 60000) : r32 (lb l) ⟨#[c]⟩ = some ((cut c l).map lb) := by
  show splitV (lb l) ⟨#[c]⟩ = _
  rw [split_cut _ _ (by rw [size_lb]; omega), bl_lb]
theorem mapb_getD {l : List (List UInt8)} {i : Nat} (h : i < l.length) : (l.map lb).getD i default = lb (l.getD i []) := by
  rw [List.getD_eq_getElem?_getD, List.getElem?_map, List.getElem?_eq_getElem h, List.getD_eq_getElem?_getD, List.getElem?_eq_getElem h]; rfl
theorem take_succ' {α : Type} (l : List α) (d : α) {i : Nat} (h : i < l.length) : l.take (i + 1) = l.take i ++ [l.getD i d] := by
  rw [List.take_add_one, List.getElem?_eq_getElem h, List.getD_eq_getElem?_getD, List.getElem?_eq_getElem h]; rfl
theorem mem_getD' {α : Type} {l : List α} {d : α} {i : Nat} (h : i < l.length) : l.getD i d ∈ l := by
  rw [List.getD_eq_getElem?_getD, List.getElem?_eq_getElem h]; exact List.getElem_mem h
/-- knots of n numbers -/
def GoodK (n : Nat) (l : List UInt8) : Prop := l = [] ∨ ∀ p ∈ cut 59 l, GoodW 7 n p
instance (n : Nat) (l : List UInt8) : Decidable (GoodK n l) := inferInstanceAs (Decidable (_ ∨ _))
def kvals (l : List UInt8) : List (List Int) := if l = [] then [] else (cut 59 l).map wvals
theorem kvals_mem {n : Nat} {l : List UInt8} (h : GoodK n l) : ∀ k ∈ kvals l, k.length = n := by
  intro k hk
  unfold kvals at hk
  split at hk
  · cases hk
  · rename_i hl
    obtain ⟨p, hp, rfl⟩ := List.mem_map.1 hk
    exact wvals_len (h.resolve_left hl p hp)
theorem kvals_len (l : List UInt8) : (kvals l).length ≤ l.length + 1 := by
  unfold kvals
  split
  · simp
  · rw [List.length_map]; exact cut_count 59 l
theorem lb_nil (l : List UInt8) : (decide (lb l = (⟨#[]⟩ : ByteArray))) = decide (l = []) := by
  rw [decide_eq_decide]; exact lb_inj (r := [])
theorem s33 (l : List UInt8) (n : Nat) (hl : l.length ≤ 60000) : ∃ v, r33 (lb l) (n : Int) = some v ∧ v.2 = decide (GoodK n l) ∧ (v.2 = true → v.1 = kvals l) := by
  unfold r33
  rw [lb_nil]
  by_cases e0 : l = []
  · rw [if_pos (by simpa using e0)]
    refine ⟨_, rfl, ?_, fun _ => ?_⟩
    · show true = _
      symm; rw [decide_eq_true_eq]; exact .inl e0
    · rw [kvals, if_pos e0]
  · rw [if_neg (by simpa using e0)]
    have hG : GoodK n l ↔ ∀ p ∈ cut 59 l, GoodW 7 n p := ⟨fun h => h.resolve_left e0, .inr⟩
    have hk : kvals l = (cut 59 l).map wvals := if_neg e0
    refine iter_meas (b33_1 (n : Int)) (fun s => ∃ (r : List UInt8) (ws : List (List UInt8)), s = (lb r, ws.map wvals) ∧ r.length ≤ l.length ∧ ws ++ cut 59 r = cut 59 l ∧ ∀ w ∈ ws, GoodW 7 n w) (fun s => s.1.size) (fun o => ∃ v, o = some v ∧ v.2 = decide (GoodK n l) ∧ (v.2 = true → v.1 = kvals l)) (fun s hs => ?_) 1000000000 _ ⟨l, [], rfl, Nat.le_refl _, rfl, by simp⟩ (by show l.length < 1000000000; omega)
    obtain ⟨r, ws, rfl, hr, hc, hg⟩ := hs
    have hws : ws.length ≤ 60001 := by
      have := congrArg List.length hc
      have := cut_len_le 59 l
      rw [List.length_append] at *; omega
    unfold b33_1
    simp only
    rw [a70]
    simp only [bindC]
    rcases cut_index (c := 59) r with ⟨h1, h2⟩ | ⟨i, h1, h2, h3, h4⟩
    · right
      obtain ⟨v, e1, e2, e3⟩ := s35 r n (by omega)
      rw [h1, if_pos (by decide)]
      refine ⟨_, rfl, ?_⟩
      rw [e1, Option.bind_some]
      have e : cut 59 l = ws ++ [r] := by rw [← hc, cut_none h2]
      by_cases g : GoodW 7 n r
      · have hv : v.2 = true := by rw [e2]; simpa using g
        rw [if_neg (by rw [hv]; simp), if_pos (by rw [List.length_map]; omega)]
        refine ⟨_, rfl, ?_, fun _ => ?_⟩
        · show true = _
          symm; rw [decide_eq_true_eq, hG, e]
          intro w hw
          rcases List.mem_append.mp hw with hw | hw
          · exact hg w hw
          · rw [List.mem_singleton] at hw; rw [hw]; exact g
        · rw [e3 hv, hk, e, List.map_append]; rfl
      · have hv : v.2 = false := by rw [e2]; simpa using g
        rw [if_pos (by rw [hv]; rfl)]
        refine ⟨_, rfl, ?_, fun h => by cases h⟩
        show false = _
        symm; rw [decide_eq_false_iff_not, hG]
        exact fun hA => g (hA r (by rw [e]; simp))
    · have e : cut 59 l = ws ++ r.take i :: cut 59 (r.drop (i + 1)) := by rw [← hc]; conv => lhs; rw [h4, cut_at _ _ h3]
      obtain ⟨v, e1, e2, e3⟩ := s35 (r.take i) n (by rw [List.length_take]; omega)
      rw [h1, if_neg (by simp), show ((i : Int) + 0) = (i : Int) by omega, wI (a := (i : Int)) (by omega) (by omega), wI (a := (i : Int) + 1) (by omega) (by omega), if_pos ⟨by omega, by omega, by rw [size_lb]; omega⟩, show ((i : Int) + 1).toNat = i + 1 by omega, Int.toNat_natCast, lb_extract, List.drop_zero, show i - 0 = i by omega, e1]
      simp only
      by_cases g : GoodW 7 n (r.take i)
      · left
        have hv : v.2 = true := by rw [e2]; simpa using g
        rw [if_neg (by rw [hv]; simp), if_pos (by rw [List.length_map]; omega), if_pos ⟨by omega, by rw [size_lb]; omega, Int.le_refl _⟩, size_lb, lb_extract]
        have hd : (r.drop (i + 1)).take (r.length - (i + 1)) = r.drop (i + 1) := List.take_of_length_le (by rw [List.length_drop]; omega)
        rw [hd]
        refine ⟨_, rfl, ⟨r.drop (i + 1), ws ++ [r.take i], ?_, by rw [List.length_drop]; omega, by rw [e]; simp, fun w hw => ?_⟩, by show (r.drop (i+1)).length < r.length; rw [List.length_drop]; omega⟩
        · rw [e3 hv, List.map_append]; rfl
        · rcases List.mem_append.mp hw with hw | hw
          · exact hg w hw
          · rw [List.mem_singleton] at hw; rw [hw]; exact g
      · right
        have hv : v.2 = false := by rw [e2]; simpa using g
        rw [if_pos (by rw [hv]; rfl)]
        refine ⟨_, rfl, _, rfl, ?_, fun h => by cases h⟩
        show false = _
        symm; rw [decide_eq_false_iff_not, hG]
        exact fun hA => g (hA (r.take i) (by rw [e]; simp))
theorem s38 (l : List UInt8) (n : Nat) (hl : l.length ≤ 60000) : ∃ v, r38 (lb l) (n : Int) = some v ∧ v.2 = decide (GoodK n l) ∧ (v.2 = true → v.1 = kvals l) := by
  unfold r38
  rw [lb_nil]
  by_cases e0 : l = []
  · rw [if_pos (by simpa using e0)]
    refine ⟨_, rfl, ?_, fun _ => ?_⟩
    · show true = _
      symm; rw [decide_eq_true_eq]; exact .inl e0
    · rw [kvals, if_pos e0]
  · have h59 : r37 (lb l) 59 = _ := s37 l 59 (by omega)
    rw [if_neg (by simpa using e0), h59, Option.bind_some]
    have hG : GoodK n l ↔ ∀ p ∈ cut 59 l, GoodW 7 n p := ⟨fun h => h.resolve_left e0, .inr⟩
    have hk : kvals l = (cut 59 l).map wvals := if_neg e0
    have hcl := cut_len_le 59 l
    refine iter_meas (b38_1 (n : Int) ((cut 59 l).map lb)) (fun s => ∃ i : Nat, s = (((cut 59 l).take i).map wvals, (i : Int)) ∧ i ≤ (cut 59 l).length ∧ ∀ w ∈ (cut 59 l).take i, GoodW 7 n w) (fun s => (cut 59 l).length - s.2.toNat) (fun o => ∃ v, o = some v ∧ v.2 = decide (GoodK n l) ∧ (v.2 = true → v.1 = kvals l)) (fun s hs => ?_) 1000000000 _ ⟨0, by simp, by omega, by simp⟩ (by show (cut 59 l).length - (0 : Int).toNat < 1000000000; omega)
    obtain ⟨i, rfl, h1, h2⟩ := hs
    unfold b38_1
    simp only
    by_cases g : i < (cut 59 l).length
    · have hmem : (cut 59 l).getD i [] ∈ cut 59 l := mem_getD' g
      obtain ⟨v, e1, e2, e3⟩ := s39 ((cut 59 l).getD i []) n (Nat.le_trans (cut_len 59 l _ hmem) hl)
      rw [if_pos (by rw [List.length_map]; simpa using g), if_pos (by rw [List.length_map]; omega), Int.toNat_natCast, mapb_getD g, e1]
      simp only [bindC]
      by_cases w3 : GoodW 7 n ((cut 59 l).getD i [])
      · left
        have hv : v.2 = true := by rw [e2]; simpa using w3
        rw [if_neg (by rw [hv]; simp), if_pos (by rw [List.length_map, List.length_take]; omega), wI (by omega) (by omega), e3 hv]
        refine ⟨_, rfl, ⟨i + 1, ?_, g, ?_⟩, by show (cut 59 l).length - ((i : Int) + 1).toNat < (cut 59 l).length - (i : Int).toNat; omega⟩
        · rw [take_succ' _ [] g, List.map_append]; rfl
        · rw [take_succ' _ [] g]; intro w hw
          rcases List.mem_append.mp hw with hw | hw
          · exact h2 w hw
          · rw [List.mem_singleton] at hw; rw [hw]; exact w3
      · right
        have hv : v.2 = false := by rw [e2]; simpa using w3
        rw [if_pos (by rw [hv]; rfl)]
        refine ⟨_, rfl, _, rfl, ?_, fun h => by cases h⟩
        show false = _
        symm; rw [decide_eq_false_iff_not, hG]
        exact fun hA => w3 (hA _ hmem)
    · right
      obtain rfl : i = (cut 59 l).length := by omega
      rw [if_neg (by rw [List.length_map]; simp)]
      rw [List.take_length] at h2 ⊢
      refine ⟨_, rfl, _, rfl, ?_, fun _ => hk.symm⟩
      show true = _
      symm; rw [decide_eq_true_eq, hG]
      exact h2
/-- a state parsed -/
def psV (l : List UInt8) : Int × Int × Int × Int × Int × Int × Int × Int :=
  if GoodW 7 7 l then
    (if staE ((wvals l).getD 0 default) ((wvals l).getD 1 default) ((wvals l).getD 2 default) ((wvals l).getD 3 default) ((wvals l).getD 4 default) ((wvals l).getD 5 default) ((wvals l).getD 6 default) = 0
      then ((wvals l).getD 0 default, (wvals l).getD 1 default, (wvals l).getD 2 default, (wvals l).getD 3 default, (wvals l).getD 4 default, (wvals l).getD 5 default, (wvals l).getD 6 default, 0)
      else (0, 0, 0, 0, 0, 0, 0, staE ((wvals l).getD 0 default) ((wvals l).getD 1 default) ((wvals l).getD 2 default) ((wvals l).getD 3 default) ((wvals l).getD 4 default) ((wvals l).getD 5 default) ((wvals l).getD 6 default)))
  else (0, 0, 0, 0, 0, 0, 0, 7)
theorem s10 (l : List UInt8) (hl : l.length ≤ 60000) : r10 (lb l) = some (psV l) := by
  unfold r10
  obtain ⟨v, e1, e2, e3⟩ := s35 l 7 hl
  have e1' : r35 (lb l) 7 = some v := e1
  rw [e1', Option.bind_some, psV]
  by_cases g : GoodW 7 7 l
  · have hv : v.2 = true := by rw [e2]; simpa using g
    have hlen := wvals_len g
    rw [if_neg (by rw [hv]; simp), e3 hv, if_pos (by omega), if_pos (by omega), if_pos (by omega), if_pos (by omega), if_pos (by omega), if_pos (by omega), if_pos (by omega), p17, Option.bind_some, if_pos g]
    split <;> split <;> simp_all
  · have hv : v.2 = false := by rw [e2]; simpa using g
    rw [if_pos (by rw [hv]; rfl), if_neg g]
theorem s12 (l : List UInt8) (hl : l.length ≤ 60000) : r12 (lb l) = some (psV l) := by
  unfold r12
  obtain ⟨v, e1, e2, e3⟩ := s39 l 7 hl
  have e1' : r39 (lb l) 7 = some v := e1
  rw [e1', Option.bind_some, psV]
  by_cases g : GoodW 7 7 l
  · have hv : v.2 = true := by rw [e2]; simpa using g
    have hlen := wvals_len g
    rw [if_neg (by rw [hv]; simp), e3 hv, if_pos (by omega), if_pos (by omega), if_pos (by omega), if_pos (by omega), if_pos (by omega), if_pos (by omega), if_pos (by omega), p18, Option.bind_some, if_pos g]
    split <;> split <;> simp_all
  · have hv : v.2 = false := by rw [e2]; simpa using g
    rw [if_pos (by rw [hv]; rfl), if_neg g]
end Go.Proofs.YtdlogfepbkojkaaGreatDoor

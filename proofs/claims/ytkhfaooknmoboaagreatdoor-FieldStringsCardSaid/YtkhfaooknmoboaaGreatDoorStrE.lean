/- Strings: a ladder parsed, by the program and by the reference. -/
import Derived.Test.YtkhfaooknmoboaaGreatDoorStrD
set_option linter.unusedVariables false
set_option linter.unusedSimpArgs false
namespace Go.Proofs.YtkhfaooknmoboaaGreatDoor
open Go.Abs

def three (v : List Int) : Int × Int × Int := (v.getD 0 default, v.getD 1 default, v.getD 2 default)
def shp (p : List UInt8) : Int × Int × Int := three (wvals p)
def trn (p : List UInt8) : Int := (wvals p).getD 0 default
def parseV (l : List UInt8) : Int × List (Int × Int × Int) × Int :=
  if 60000 < l.length then (0, [], 8)
  else if GoodW 3 1 ((cut 59 l).headD []) ∧ ∀ p ∈ (cut 59 l).tail, GoodW 3 3 p then
    (if ladE (trn ((cut 59 l).headD [])) ((cut 59 l).tail.map shp) = 0 then (trn ((cut 59 l).headD []), (cut 59 l).tail.map shp, 0) else (0, [], ladE (trn ((cut 59 l).headD [])) ((cut 59 l).tail.map shp)))
  else (0, [], 7)
theorem wvals_len {k n : Nat} {p : List UInt8} (h : GoodW k n p) : (wvals p).length = n := by
  rw [wvals, List.length_map]; exact h.1
theorem p24 (l : List UInt8) (c : UInt8) (h : l.length ≤ 60000) : r24 (lb l) ⟨#[c]⟩ = some ((cut c l).map lb) := by
  show splitV (lb l) ⟨#[c]⟩ = _
  rw [split_cut _ _ (by rw [size_lb]; omega), bl_lb]
theorem map_getD {l : List (List UInt8)} {i : Nat} (h : i < l.length) : (l.map lb).getD i default = lb (l.getD i []) := by
  rw [List.getD_eq_getElem?_getD, List.getElem?_map, List.getElem?_eq_getElem h, List.getD_eq_getElem?_getD, List.getElem?_eq_getElem h]; rfl
theorem getD_cons_succ' {α : Type} (a : α) (l : List α) (i : Nat) (d : α) : (a :: l).getD (i + 1) d = l.getD i d := rfl
theorem take_succ' {α : Type} (l : List α) (d : α) {i : Nat} (h : i < l.length) : l.take (i + 1) = l.take i ++ [l.getD i d] := by
  rw [List.take_add_one, List.getElem?_eq_getElem h, List.getD_eq_getElem?_getD, List.getElem?_eq_getElem h]; rfl
theorem mem_getD {α : Type} {l : List α} {d : α} {i : Nat} (h : i < l.length) : l.getD i d ∈ l := by
  rw [List.getD_eq_getElem?_getD, List.getElem?_eq_getElem h]; exact List.getElem_mem h
theorem parse_end (p0 : List UInt8) (rest : List (List UInt8)) (T : Int) (L : List (Int × Int × Int)) (hT : T = trn p0) (hL : L = rest.map shp) (g0 : GoodW 3 1 p0) (g : ∀ p ∈ rest, GoodW 3 3 p) {l : List UInt8} (hl : l.length ≤ 60000) (hc : cut 59 l = p0 :: rest) :
    (if (ladE T L != 0) = true then some (0, [], ladE T L) else some (T, L, 0)) = some (parseV l) := by
  subst hT hL
  have e : parseV l = if ladE (trn p0) (rest.map shp) = 0 then (trn p0, rest.map shp, 0) else (0, [], ladE (trn p0) (rest.map shp)) := by
    rw [parseV, if_neg (by omega), hc]
    exact if_pos ⟨g0, g⟩
  rw [e]
  by_cases h : ladE (trn p0) (rest.map shp) = 0
  · rw [if_neg (by rw [h]; simp), if_pos h]
  · rw [if_pos (by simpa using h), if_neg h]
theorem parse_bad {p0 : List UInt8} {rest : List (List UInt8)} {l : List UInt8} (hl : l.length ≤ 60000) (hc : cut 59 l = p0 :: rest) (hb : ¬ (GoodW 3 1 p0 ∧ ∀ p ∈ rest, GoodW 3 3 p)) : parseV l = (0, [], 7) := by
  rw [parseV, if_neg (by omega), hc]
  exact if_neg hb
theorem p8 (l : List UInt8) : r8 (lb l) = some (parseV l) := by
  unfold r8
  by_cases hl : 60000 < l.length
  · rw [if_pos (by rw [size_lb, decide_eq_true_eq]; omega), parseV, if_pos hl]
  · have hl : l.length ≤ 60000 := by omega
    rw [if_neg (by rw [size_lb, decide_eq_true_eq]; omega), p24 l 59 hl, Option.bind_some]
    have hcl := cut_len_le 59 l
    have hpl := cut_len 59 l
    cases hc : cut 59 l with
    | nil => exact absurd hc (cut_ne 59 l)
    | cons p0 rest =>
    rw [hc] at hcl hpl
    rw [List.length_cons] at hcl
    refine iter_meas (b8_1 ((p0 :: rest).map lb)) (fun s => s = (0, 0, []) ∨ ∃ j : Nat, s = (((j + 1 : Nat) : Int), trn p0, (rest.take j).map shp) ∧ j ≤ rest.length ∧ GoodW 3 1 p0 ∧ ∀ p ∈ rest.take j, GoodW 3 3 p) (fun s => rest.length + 1 - s.1.toNat) (fun o => o = some (parseV l)) (fun s hs => ?_) 1000000000 _ (.inl rfl) (by show rest.length + 1 - (0 : Int).toNat < 1000000000; omega)
    rcases hs with rfl | ⟨j, rfl, h1, h2, h3⟩
    · unfold b8_1
      simp only
      obtain ⟨v, e1, e2, e3⟩ := p25 p0 1 (Nat.le_trans (hpl p0 (by simp)) hl)
      rw [if_pos (by rw [List.length_map, List.length_cons, decide_eq_true_eq]; omega), if_pos (by rw [List.length_map, List.length_cons]; omega), if_pos (by rfl), map_getD (by simp)]
      rw [show (p0 :: rest).getD (0 : Int).toNat [] = p0 from rfl, show (1 : Int) = ((1 : Nat) : Int) from rfl, e1]
      simp only [bindC]
      by_cases g : GoodW 3 1 p0
      · left
        have h2 : v.2 = true := by rw [e2]; simpa using g
        have hlen := wvals_len g
        rw [if_neg (by rw [h2]; simp), if_pos (by rfl), e3 h2, if_pos (by omega)]
        refine ⟨_, rfl, .inr ⟨0, ?_, by omega, g, by simp⟩, by show rest.length + 1 - (IntKind.i64.wrap (0 + ((1 : Nat) : Int))).toNat < rest.length + 1 - (0 : Int).toNat; rw [wI (by omega) (by omega)]; omega⟩
        rw [wI (by omega) (by omega)]; rfl
      · right
        have h2 : v.2 = false := by rw [e2]; simpa using g
        rw [if_pos (by rw [h2]; rfl)]
        exact ⟨_, rfl, by rw [parse_bad hl hc (fun h => g h.1)]⟩
    · unfold b8_1
      simp only
      by_cases g : j < rest.length
      · obtain ⟨v, e1, e2, e3⟩ := p25 (rest.getD j []) 3 (Nat.le_trans (hpl _ (List.mem_cons_of_mem _ (mem_getD g))) hl)
        rw [if_pos (by rw [List.length_map, List.length_cons]; simp; omega), if_pos (by rw [List.length_map, List.length_cons]; omega), if_neg (by simp; omega), Int.toNat_natCast, map_getD (by simp; omega), getD_cons_succ', show (3 : Int) = ((3 : Nat) : Int) from rfl, e1]
        simp only [bindC]
        by_cases gw : GoodW 3 3 (rest.getD j [])
        · left
          have h2v : v.2 = true := by rw [e2]; simpa using gw
          have hlen := wvals_len gw
          rw [if_neg (by rw [h2v]; simp), if_neg (by simp; omega), e3 h2v, if_pos (by omega), if_pos (by omega), if_pos (by omega), if_pos (by rw [List.length_map, List.length_take]; omega), wI (by omega) (by omega)]
          refine ⟨_, rfl, .inr ⟨j + 1, ?_, g, h2, ?_⟩, by show rest.length + 1 - (((j + 1 : Nat) : Int) + 1).toNat < rest.length + 1 - ((j + 1 : Nat) : Int).toNat; omega⟩
          · rw [take_succ' rest [] g, List.map_append]; rfl
          · rw [take_succ' rest [] g]; intro p hp
            rcases List.mem_append.mp hp with hp | hp
            · exact h3 p hp
            · rw [List.mem_singleton] at hp; rw [hp]; exact gw
        · right
          have h2v : v.2 = false := by rw [e2]; simpa using gw
          rw [if_pos (by rw [h2v]; rfl)]
          exact ⟨_, rfl, by rw [parse_bad hl hc (fun h => gw (h.2 _ (mem_getD g)))]⟩
      · right
        obtain rfl : j = rest.length := by omega
        rw [List.take_length] at h3 ⊢
        rw [if_neg (by rw [List.length_map, List.length_cons]; simp), p26, Option.bind_some]
        exact ⟨_, rfl, parse_end p0 rest _ _ rfl rfl h2 h3 hl hc⟩
theorem p9 (l : List UInt8) : r9 (lb l) = some (parseV l) := by
  unfold r9
  by_cases hl : 60000 < l.length
  · rw [if_pos (by rw [size_lb, decide_eq_true_eq]; omega), parseV, if_pos hl]
  · have hl : l.length ≤ 60000 := by omega
    have h59 : r27 (lb l) 59 = _ := p27 l 59 (by omega)
    rw [if_neg (by rw [size_lb, decide_eq_true_eq]; omega), h59, Option.bind_some]
    have hcl := cut_len_le 59 l
    have hpl := cut_len 59 l
    cases hc : cut 59 l with
    | nil => exact absurd hc (cut_ne 59 l)
    | cons p0 rest =>
    rw [hc] at hcl hpl
    rw [List.length_cons] at hcl
    obtain ⟨v, e1, e2, e3⟩ := p28 p0 1 (Nat.le_trans (hpl p0 (by simp)) hl)
    rw [if_pos (by rw [List.length_map, List.length_cons]; omega), map_getD (by simp), show (p0 :: rest).getD 0 [] = p0 from rfl, show (1 : Int) = ((1 : Nat) : Int) from rfl, e1, Option.bind_some]
    by_cases g0 : GoodW 3 1 p0
    · have h2 : v.2 = true := by rw [e2]; simpa using g0
      have hlen := wvals_len g0
      have hv := e3 h2
      rw [if_neg (by rw [h2]; simp), if_pos (by rw [hv]; omega)]
      refine iter_meas (b9_1 ((p0 :: rest).map lb) v) (fun s => ∃ j : Nat, s = (((j + 1 : Nat) : Int), (rest.take j).map shp) ∧ j ≤ rest.length ∧ ∀ p ∈ rest.take j, GoodW 3 3 p) (fun s => rest.length + 1 - s.1.toNat) (fun o => o = some (parseV l)) (fun s hs => ?_) 1000000000 _ ⟨0, rfl, by omega, by simp⟩ (by show rest.length + 1 - ((1 : Nat) : Int).toNat < 1000000000; omega)
      obtain ⟨j, rfl, h1, h3⟩ := hs
      unfold b9_1
      simp only
      by_cases g : j < rest.length
      · obtain ⟨u, u1, u2, u3⟩ := p28 (rest.getD j []) 3 (Nat.le_trans (hpl _ (List.mem_cons_of_mem _ (mem_getD g))) hl)
        rw [if_pos (by rw [List.length_map, List.length_cons]; simp; omega), if_pos (by rw [List.length_map, List.length_cons]; omega), Int.toNat_natCast, map_getD (by simp; omega), getD_cons_succ', show (3 : Int) = ((3 : Nat) : Int) from rfl, u1]
        simp only [bindC]
        by_cases gw : GoodW 3 3 (rest.getD j [])
        · left
          have h2v : u.2 = true := by rw [u2]; simpa using gw
          have hlen := wvals_len gw
          rw [if_neg (by rw [h2v]; simp), u3 h2v, if_pos (by omega), if_pos (by omega), if_pos (by omega), if_pos (by rw [List.length_map, List.length_take]; omega), wI (by omega) (by omega)]
          refine ⟨_, rfl, ⟨j + 1, ?_, g, ?_⟩, by show rest.length + 1 - (((j + 1 : Nat) : Int) + 1).toNat < rest.length + 1 - ((j + 1 : Nat) : Int).toNat; omega⟩
          · rw [take_succ' rest [] g, List.map_append]; rfl
          · rw [take_succ' rest [] g]; intro p hp
            rcases List.mem_append.mp hp with hp | hp
            · exact h3 p hp
            · rw [List.mem_singleton] at hp; rw [hp]; exact gw
        · right
          have h2v : u.2 = false := by rw [u2]; simpa using gw
          rw [if_pos (by rw [h2v]; rfl)]
          exact ⟨_, rfl, by rw [parse_bad hl hc (fun h => gw (h.2 _ (mem_getD g)))]⟩
      · right
        obtain rfl : j = rest.length := by omega
        rw [List.take_length] at h3 ⊢
        rw [if_neg (by rw [List.length_map, List.length_cons]; simp), p12, Option.bind_some]
        exact ⟨_, rfl, parse_end p0 rest _ _ (by rw [hv]; rfl) rfl g0 h3 hl hc⟩
    · have h2 : v.2 = false := by rw [e2]; simpa using g0
      rw [if_pos (by rw [h2]; rfl), parse_bad hl hc (fun h => g0 h.1)]
end Go.Proofs.YtkhfaooknmoboaaGreatDoor

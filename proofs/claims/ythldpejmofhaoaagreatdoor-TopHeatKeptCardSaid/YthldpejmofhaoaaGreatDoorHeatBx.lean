/- Boxes and spans, in the code and in the reference. -/
import Derived.Test.YthldpejmofhaoaaGreatDoorF02
import Derived.Test.YthldpejmofhaoaaGreatDoorF07
import Derived.Test.YthldpejmofhaoaaGreatDoorHeatS
set_option linter.unusedVariables false
set_option linter.unusedSimpArgs false
namespace Go.Proofs.YthldpejmofhaoaaGreatDoor
open Go.Abs

def orderF (lo hi : List Int) (i : Nat) : Option (Int × Int) := if lo.getD i default > hi.getD i default then some ((i : Int), 9) else none
def boxErrV (a : Int) (T : List (Int × Int)) (lo hi : List Int) : Int × Int :=
  if (stateErrV a T lo).2 = 0 then (if (stateErrV a T hi).2 = 0 then (scanN (orderF lo hi) 0 lo.length).getD (0, 0) else stateErrV a T hi) else stateErrV a T lo
theorem orE_getD {ρ : Type} (o : Option ρ) (v : ρ) : orE o (some v) = some (o.getD v) := by cases o <;> rfl
theorem p114 {a b : Int} {T : List (Int × Int)} {L : List (List (Int × Int))} (ok : SetOk a b T L) (lo hi : List Int) (h1 : lo.length < 1000000) (h2 : hi.length < 1000000) : r232 a b T L T L lo hi = some (boxErrV a T lo hi) := by
  unfold r232 boxErrV
  rw [p102 a b T L T L lo ok.tpos ok.tlt h1, Option.bind_some]
  by_cases c1 : (stateErrV a T lo).2 = 0
  · rw [if_neg (by simpa using c1), if_pos c1, p102 a b T L T L hi ok.tpos ok.tlt h2, Option.bind_some]
    by_cases c2 : (stateErrV a T hi).2 = 0
    · have l1 := (state_ok c1).1
      have l2 := (state_ok c2).1
      rw [if_neg (by simpa using c2), if_pos c2, ← orE_getD]
      refine iter_scan lo.length _ _ _ (by omega) (fun i hi' => ?_) (by simp [b232_1])
      simp only [b232_1, ltN hi', if_true, if_pos (rgN hi'), if_pos (rgN (show i < hi.length by omega)), Int.toNat_natCast, wS i (by omega), orderF]
      by_cases hc : lo.getD i default > hi.getD i default
      · rw [if_pos (decide_eq_true hc), if_pos hc]
      · rw [if_neg (by rw [decide_eq_true_eq]; exact hc), if_neg hc]
    · rw [if_pos (by simpa using c2), if_neg c2]
  · rw [if_pos (by simpa using c1), if_neg c1]
theorem box_ok {a : Int} {T : List (Int × Int)} {lo hi : List Int} (h : (boxErrV a T lo hi).2 = 0) : (stateErrV a T lo).2 = 0 ∧ (stateErrV a T hi).2 = 0 ∧ leL lo hi ∧ boxErrV a T lo hi = (0, 0) := by
  unfold boxErrV at h ⊢
  by_cases c1 : (stateErrV a T lo).2 = 0
  · rw [if_pos c1] at h ⊢
    by_cases c2 : (stateErrV a T hi).2 = 0
    · rw [if_pos c2] at h ⊢
      have l1 := (state_ok c1).1
      have l2 := (state_ok c2).1
      cases hs : scanN (orderF lo hi) 0 lo.length with
      | none =>
        refine ⟨c1, c2, leL_of lo hi (by omega) fun j hj => ?_, rfl⟩
        have := scan_none hs j (by omega) (by omega)
        unfold orderF at this
        split at this
        · cases this
        · omega
      | some v =>
        obtain ⟨j, _, _, hj⟩ := scan_some hs
        rw [hs] at h
        unfold orderF at hj
        split at hj
        · cases hj; simp at h
        · cases hj
    · rw [if_neg c2] at h; exact absurd h c2
  · rw [if_neg c1] at h; exact absurd h c1
def bxErr (a b : Int) (T : List (Int × Int)) (L : List (List (Int × Int))) (lo hi : List Int) : Int := if (setupErrV a b T L).2 = 0 then (boxErrV a T lo hi).2 else (setupErrV a b T L).2
def openBx (a b : Int) (T : List (Int × Int)) (L : List (List (Int × Int))) (lo hi : List Int) : Int × Int × (List (Int × Int)) × (List ((List (Int × Int)))) × (List (Int × Int)) × (List ((List (Int × Int)))) × Int :=
  if (setupErrV a b T L).2 = 0 then (a, b, T, L, T, L, (boxErrV a T lo hi).2) else (0, 0, [], [], [], [], (setupErrV a b T L).2)
theorem openBx_err (a b : Int) (T : List (Int × Int)) (L : List (List (Int × Int))) (lo hi : List Int) : (openBx a b T L lo hi).2.2.2.2.2.2 = bxErr a b T L lo hi := by
  unfold openBx bxErr; split <;> rfl
theorem p115 (a b : Int) (T : List (Int × Int)) (L : List (List (Int × Int))) (lo hi : List Int) (hT : T.length < 1000) (hn : L.length < 1000) (hL : ∀ x ∈ L, x.length < 1000) (h1 : lo.length < 1000000) (h2 : hi.length < 1000000) : r178 a b T L lo hi = some (openBx a b T L lo hi) := by
  unfold r178 openBx
  rw [p101 a b T L hT hn hL, Option.bind_some]
  by_cases h : (setupErrV a b T L).2 = 0
  · have ok := setOk_of h
    rw [if_pos h, if_pos h]
    simp only
    rw [if_pos (by rfl), p114 ok lo hi h1 h2, Option.bind_some]
  · rw [if_neg h, if_neg h]
    simp only
    rw [if_neg (by simpa using h)]
/-- a box in order -/
structure BoxOk (a b : Int) (T : List (Int × Int)) (L : List (List (Int × Int))) (u v : List Int) : Prop where
  lo : AllOk a b T L u
  hi : AllOk a b T L v
  le : leL u v
theorem boxOk_of {a b : Int} {T : List (Int × Int)} {L : List (List (Int × Int))} {lo hi : List Int} (h : bxErr a b T L lo hi = 0) : BoxOk a b T L lo hi := by
  unfold bxErr at h
  by_cases h0 : (setupErrV a b T L).2 = 0
  · rw [if_pos h0] at h
    obtain ⟨h1, h2, h3, _⟩ := box_ok h
    exact ⟨allOk_of (by unfold stErr; rw [if_pos h0]; exact h1), allOk_of (by unfold stErr; rw [if_pos h0]; exact h2), h3⟩
  · rw [if_neg h0] at h; exact absurd h h0
theorem openBx_ok {a b : Int} {T : List (Int × Int)} {L : List (List (Int × Int))} {lo hi : List Int} (h : bxErr a b T L lo hi = 0) : openBx a b T L lo hi = (a, b, T, L, T, L, 0) := by
  unfold bxErr at h
  unfold openBx
  by_cases h0 : (setupErrV a b T L).2 = 0
  · rw [if_pos h0] at h ⊢; rw [h]
  · rw [if_neg h0] at h; exact absurd h h0
/-- spans -/
theorem firstV_cons (x : Int) (r : List Int) : firstV (x :: r) = firstE x (firstV r) := rfl
theorem firstE_assoc (x y z : Int) : firstE (firstE x y) z = firstE x (firstE y z) := by
  unfold firstE; by_cases h : x = 0
  · rw [if_pos h, if_pos h]
  · rw [if_neg h, if_neg h, if_neg h]
theorem firstE_zero (x : Int) : firstE x 0 = x := by
  unfold firstE; by_cases h : x = 0
  · rw [if_pos h, h]
  · rw [if_neg h]
def rangeP (r : Int × Int) : Int := firstE (codeIf (inR r.1 0 10000 && inR r.2 0 10000) 2) (codeIf (decide (r.1 ≤ r.2)) 9)
def rangesP : List (Int × Int) → Int
  | [] => 0
  | r :: q => firstE (rangeP r) (rangesP q)
def lawsP (L : List (List (Int × Int))) (lo hi : Int) : Int := firstE (codeIf (inR lo 0 ((L.length : Int) - 1)) 6) (firstE (codeIf (inR hi 0 ((L.length : Int) - 1)) 6) (codeIf (decide (lo ≤ hi)) 9))
def spanErrV (a : Int) (L : List (List (Int × Int))) (ps : List (Int × Int)) (lo hi : Int) : Int := firstE (codeIf ((ps.length : Int) == a) 10) (firstE (rangesP ps) (lawsP L lo hi))
theorem p139 (n : Int) : r167 n = some (inR n 0 10000) := rfl
theorem p116 (a b : Int) (T : List (Int × Int)) (L : List (List (Int × Int))) (T' : List (Int × Int)) (L' : List (List (Int × Int))) (ps : List (Int × Int)) (lo hi : Int) (h : L'.length < 1000) (hl : ps.length < 1000000) : r198 a b T L T' L' ps lo hi = some (spanErrV a L' ps lo hi) := by
  unfold r198 spanErrV
  rw [p94, Option.bind_some]
  have hh := iter_suf (fuel := 1000000000) ps (b198_1 a b T L T' L' ps lo hi) (fun i e => (e, (i : Int))) (fun r e => some (firstE e (firstE (rangesP r) (lawsP L' lo hi)))) (fun _ _ => True) (by omega) (fun i e r hi' _ _ => by
      left
      refine ⟨firstE e (rangeP (ps.getD i default)), ?_, trivial, ?_⟩
      · simp only [b198_1, ltN hi', if_true, if_pos (rgN hi'), Int.toNat_natCast, wS i (by omega), p139, p94, bindC, Option.isSome_some, Option.getD_some, implies_true]
        rw [p91 _ (by simp)]
        simp only [firstV_cons]
        rw [show firstV [] = 0 from rfl, firstE_zero]
        rfl
      · simp only [rangesP]
        rw [firstE_assoc, firstE_assoc]) (fun e _ => by
      simp only [b198_1]
      rw [if_neg (by simp), p126 a b T L T' L' lo h, Option.bind_some, p126 a b T L T' L' hi h, Option.bind_some, p94, Option.bind_some, p91 _ (by simp), Option.bind_some]
      simp only [firstV_cons, rangesP, lawsP]
      rw [show firstV [] = 0 from rfl, firstE_zero]
      rfl) (codeIf ((ps.length : Int) == a) 10) trivial
  rw [show ((0 : Nat) : Int) = 0 from rfl] at hh
  exact hh
structure SpanOk (a : Int) (L : List (List (Int × Int))) (ps : List (Int × Int)) (lo hi : Int) : Prop where
  len : (ps.length : Int) = a
  rng : ∀ r ∈ ps, (0 ≤ r.1 ∧ r.1 ≤ 10000) ∧ (0 ≤ r.2 ∧ r.2 ≤ 10000) ∧ r.1 ≤ r.2
  law : 0 ≤ lo ∧ lo ≤ hi ∧ hi < L.length
theorem firstE_eq0 {x y : Int} (h : firstE x y = 0) : x = 0 ∧ y = 0 := by
  unfold firstE at h
  by_cases hx : x = 0
  · rw [if_pos hx] at h; exact ⟨hx, h⟩
  · rw [if_neg hx] at h; exact absurd h hx
theorem codeIf0 {b : Bool} {e : Int} (h : codeIf b e = 0) (he : e ≠ 0) : b = true := by
  cases b with
  | true => rfl
  | false => exact absurd h he
theorem ranges_ok : ∀ {l : List (Int × Int)}, rangesP l = 0 → ∀ r ∈ l, (0 ≤ r.1 ∧ r.1 ≤ 10000) ∧ (0 ≤ r.2 ∧ r.2 ≤ 10000) ∧ r.1 ≤ r.2
  | [], _, r, hr => by simp at hr
  | x :: q, h, r, hr => by
    obtain ⟨h1, h2⟩ := firstE_eq0 h
    rcases List.mem_cons.1 hr with rfl | hr
    · obtain ⟨g1, g2⟩ := firstE_eq0 h1
      have g1 := codeIf0 g1 (by decide)
      have g2 := codeIf0 g2 (by decide)
      rw [Bool.and_eq_true, inR_iff, inR_iff] at g1
      exact ⟨g1.1, g1.2, of_decide_eq_true g2⟩
    · exact ranges_ok h2 r hr
theorem span_ok {a : Int} {L : List (List (Int × Int))} {ps : List (Int × Int)} {lo hi : Int} (h : spanErrV a L ps lo hi = 0) : SpanOk a L ps lo hi := by
  obtain ⟨h1, h2⟩ := firstE_eq0 h
  obtain ⟨h3, h4⟩ := firstE_eq0 h2
  obtain ⟨h5, h6⟩ := firstE_eq0 h4
  obtain ⟨h7, h8⟩ := firstE_eq0 h6
  have g1 := codeIf0 h1 (by decide)
  have g5 := inR_iff.1 (codeIf0 h5 (by decide))
  have g7 := inR_iff.1 (codeIf0 h7 (by decide))
  have g8 := of_decide_eq_true (codeIf0 h8 (by decide))
  exact ⟨by simpa using g1, ranges_ok h3, g5.1, g8, by omega⟩
/-- spans: a list of ranges of powers, and a range of laws -/
def Span := (List (Int × Int)) × Int × Int
def spansE (a : Int) (L : List (List (Int × Int))) : List ((List (Int × Int)) × Int × Int) → Int
  | [] => 0
  | d :: r => firstE (spanErrV a L d.1 d.2.1 d.2.2) (spansE a L r)
def spansErrV (a : Int) (L : List (List (Int × Int))) (l : List ((List (Int × Int)) × Int × Int)) : Int := firstE (codeIf (decide ((l.length : Int) ≤ 200)) 8) (spansE a L l)
theorem p118 (a b : Int) (T : List (Int × Int)) (L : List (List (Int × Int))) (T' : List (Int × Int)) (L' : List (List (Int × Int))) (l : List ((List (Int × Int)) × Int × Int)) (h : L'.length < 1000) (hl : l.length < 1000000) (hdl : ∀ d ∈ l, d.1.length < 1000000) : r179 a b T L T' L' l = some (spansErrV a L' l) := by
  unfold r179 spansErrV
  rw [p94, Option.bind_some]
  have hh := iter_suf (fuel := 1000000000) l (b179_1 a b T L T' L' l) (fun i e => (e, (i : Int))) (fun r e => some (firstE e (spansE a L' r))) (fun _ _ => True) (by omega) (fun i e r hi _ _ => by
      left
      refine ⟨firstE e (spanErrV a L' (l.getD i default).1 (l.getD i default).2.1 (l.getD i default).2.2), ?_, trivial, ?_⟩
      · simp only [b179_1, ltN hi, if_true, if_pos (rgN hi), Int.toNat_natCast, wS i (by omega), p116 a b T L T' L' (l.getD i default).1 _ _ h (by have := hdl _ (getD_mem hi); omega), bindC]
        rw [p91 _ (by simp)]
        simp only [firstV_cons]
        rw [show firstV [] = 0 from rfl, firstE_zero]
        rfl
      · simp only [spansE]
        rw [firstE_assoc]) (fun e _ => by
      simp only [b179_1]
      rw [if_neg (by simp)]
      simp only [spansE]
      rw [firstE_zero]) (codeIf (decide ((l.length : Int) ≤ 200)) 8) trivial
  rw [show ((0 : Nat) : Int) = 0 from rfl] at hh
  exact hh
theorem spans_ok {a : Int} {L : List (List (Int × Int))} {l : List ((List (Int × Int)) × Int × Int)} (h : spansErrV a L l = 0) : l.length ≤ 200 ∧ ∀ d ∈ l, spanErrV a L d.1 d.2.1 d.2.2 = 0 := by
  obtain ⟨h1, h2⟩ := firstE_eq0 h
  have g1 := of_decide_eq_true (codeIf0 h1 (by decide))
  refine ⟨by omega, ?_⟩
  have : ∀ l : List ((List (Int × Int)) × Int × Int), spansE a L l = 0 → ∀ d ∈ l, spanErrV a L d.1 d.2.1 d.2.2 = 0 := by
    intro l
    induction l with
    | nil => intro _ d hd; simp at hd
    | cons x r ih =>
      intro h d hd
      obtain ⟨e1, e2⟩ := firstE_eq0 h
      rcases List.mem_cons.1 hd with rfl | hd
      · exact e1
      · exact ih e2 d hd
  exact this l h2

/-- the step of a box; none: the table is left -/
def boxS (b : Int) (T : List (Int × Int)) (L : List (List (Int × Int))) (lo hi : List Int) (d : (List (Int × Int)) × Int × Int) : Option (List Int × List Int) :=
  if (outS b T (L.getD d.2.2.toNat default) lo (d.1.map (·.1))).all (inT T) = true ∧ (outS b T (L.getD d.2.1.toNat default) hi (d.1.map (·.2))).all (inT T) = true then
    some (outS b T (L.getD d.2.2.toNat default) lo (d.1.map (·.1)), outS b T (L.getD d.2.1.toNat default) hi (d.1.map (·.2)))
  else none
theorem p153 (ps : List (Int × Int)) (lo hi : Int) (hl : ps.length < 1000000) : r245 ps lo hi = some (ps.map (·.1), hi, ps.map (·.2), lo) := by
  unfold r245
  have hm : ∀ (f : Int × Int → Int) i, i < ps.length → (ps.map f).take (i + 1) = (ps.map f).take i ++ [f (ps.getD i default)] := fun f i hi => by
    rw [take_ext _ i (by simpa using hi)]
    congr 2
    simp [List.getD_eq_getElem?_getD, hi]
  refine iter_run ps.length (b245_1 ps lo hi) (fun i => ((i : Int), (ps.map (·.1)).take i, (ps.map (·.2)).take i)) _ (by omega) (fun i hi' => ?_) ?_
  · have h1 : ((ps.map (·.1)).take i).length = i := by simp; omega
    have h2 : ((ps.map (·.2)).take i).length = i := by simp; omega
    simp only [b245_1, ltN hi', if_true, if_pos (rgN hi'), Int.toNat_natCast, wS i (by omega)]
    rw [if_pos ⟨by omega, by omega⟩, if_pos ⟨by omega, by omega⟩, hm (·.1) i hi', hm (·.2) i hi']
    rfl
  · simp only [b245_1]
    rw [if_neg (by simp), List.take_of_length_le (by simp), List.take_of_length_le (by simp)]
theorem stepsOk {a b : Int} {T : List (Int × Int)} {L : List (List (Int × Int))} {lo hi : List Int} (H : BoxOk a b T L lo hi) {d : (List (Int × Int)) × Int × Int} (hd : spanErrV a L d.1 d.2.1 d.2.2 = 0) : StepOk T L lo (d.1.map (·.1)) d.2.2 ∧ StepOk T L hi (d.1.map (·.2)) d.2.1 := by
  have S := span_ok hd
  have h1 := H.lo.len
  have h2 := H.hi.len
  have h3 := H.lo.ok.cells
  have h4 := S.len
  have h5 := S.law
  refine ⟨⟨H.lo.ins, by rw [List.length_map]; omega, ⟨by omega, by omega⟩, fun x hx => ?_, by omega, by omega⟩, ⟨H.hi.ins, by rw [List.length_map]; omega, ⟨by omega, by omega⟩, fun x hx => ?_, by omega, by omega⟩⟩
  · obtain ⟨r, hr, rfl⟩ := List.mem_map.1 hx; exact (S.rng r hr).1
  · obtain ⟨r, hr, rfl⟩ := List.mem_map.1 hx; exact (S.rng r hr).2.1
def bxR (o : Option (List Int × List Int)) : List Int × List Int × Int := (o.map fun y => (y.1, y.2, (0 : Int))).getD ([], [], 22)
def bxB (o : Option (List Int × List Int)) : List Int × List Int × Bool := (o.map fun y => (y.1, y.2, true)).getD ([], [], false)
theorem p117 {a b : Int} {T : List (Int × Int)} {L : List (List (Int × Int))} {lo hi : List Int} (H : BoxOk a b T L lo hi) {d : (List (Int × Int)) × Int × Int} (hd : spanErrV a L d.1 d.2.1 d.2.2 = 0) : r199 a b T L T L lo hi d.1 d.2.1 d.2.2 = some (bxR (boxS b T L lo hi d)) := by
  have S := span_ok hd
  have h3 := H.lo.ok.cells
  have h4 := S.len
  obtain ⟨s1, s2⟩ := stepsOk H hd
  unfold r199
  rw [p153 d.1 _ _ (by omega), Option.bind_some]
  simp only
  rw [p96 H.lo.ok s1, Option.bind_some, p96 H.lo.ok s2, Option.bind_some, p91 _ (by simp), Option.bind_some, firstV2]
  unfold boxS
  generalize outS b T (L.getD d.2.2.toNat default) lo (d.1.map (·.1)) = o1
  generalize outS b T (L.getD d.2.1.toNat default) hi (d.1.map (·.2)) = o2
  by_cases c1 : o1.all (inT T) = true
  · by_cases c2 : o2.all (inT T) = true
    · have e : (if o1.all (inT T) = true ∧ o2.all (inT T) = true then some (o1, o2) else none) = some (o1, o2) := if_pos ⟨c1, c2⟩
      rw [e, if_pos c1, if_pos c2]; rfl
    · have e : (if o1.all (inT T) = true ∧ o2.all (inT T) = true then some (o1, o2) else none) = none := if_neg (fun h => c2 h.2)
      rw [e, if_pos c1, if_neg c2]; rfl
  · have e : (if o1.all (inT T) = true ∧ o2.all (inT T) = true then some (o1, o2) else none) = none := if_neg (fun h => c1 h.1)
    rw [e, if_neg c1]
    by_cases c2 : o2.all (inT T) = true
    · rw [if_pos c2]; rfl
    · rw [if_neg c2]; rfl
theorem map_sel (l : List (Int × Int)) : (l.map fun x => if false = true then x.2 else x.1) = l.map (·.1) ∧ (l.map fun x => if true = true then x.2 else x.1) = l.map (·.2) := ⟨rfl, rfl⟩
theorem map_leL (l : List (Int × Int)) (h : ∀ r ∈ l, r.1 ≤ r.2) : leL (l.map (·.1)) (l.map (·.2)) := by
  induction l with
  | nil => trivial
  | cons x r ih => exact ⟨h x (by simp), ih fun y hy => h y (by simp [hy])⟩
theorem BoxOk.next {a b : Int} {T : List (Int × Int)} {L : List (List (Int × Int))} {lo hi : List Int} (H : BoxOk a b T L lo hi) {d : (List (Int × Int)) × Int × Int} (hd : spanErrV a L d.1 d.2.1 d.2.2 = 0) {y : List Int × List Int} (hy : boxS b T L lo hi d = some y) : BoxOk a b T L y.1 y.2 := by
  have S := span_ok hd
  unfold boxS at hy
  split at hy
  · rename_i hc
    cases hy
    exact ⟨H.lo.next hc.1, H.hi.next hc.2, outS_leL H.lo.ok ⟨by have := S.law; omega, S.law.2.2⟩ ⟨S.law.1, by have := S.law; omega⟩ S.law.2.1 H.le (map_leL d.1 fun r hr => (S.rng r hr).2.2)⟩
  · cases hy
/-- the boxes after all steps -/
def runB (b : Int) (T : List (Int × Int)) (L : List (List (Int × Int))) : List Int → List Int → List ((List (Int × Int)) × Int × Int) → Option (List (List Int × List Int))
  | _, _, [] => some []
  | lo, hi, d :: r => (boxS b T L lo hi d).bind fun y => (runB b T L y.1 y.2 r).map fun z => y :: z
def bxF (o : Option (List (List Int × List Int))) (out : List (List Int × List Int)) : List (List Int × List Int) × Int := (o.map fun z => (out ++ z, (0 : Int))).getD ([], 22)
def bxG (o : Option (List (List Int × List Int))) (out : List (List Int × List Int)) : List (List Int × List Int) × Bool := (o.map fun z => (out ++ z, true)).getD ([], false)
theorem bxF_cons {b : Int} {T : List (Int × Int)} {L : List (List (Int × Int))} {lo hi : List Int} {d : (List (Int × Int)) × Int × Int} {r : List ((List (Int × Int)) × Int × Int)} {out : List (List Int × List Int)} {y : List Int × List Int} (h : boxS b T L lo hi d = some y) :
    bxF (runB b T L lo hi (d :: r)) out = bxF (runB b T L y.1 y.2 r) (out ++ [y]) ∧ bxG (runB b T L lo hi (d :: r)) out = bxG (runB b T L y.1 y.2 r) (out ++ [y]) := by
  have e : runB b T L lo hi (d :: r) = (runB b T L y.1 y.2 r).map fun z => y :: z := by
    conv => lhs; unfold runB
    rw [h]; rfl
  rw [e]
  unfold bxF bxG
  cases runB b T L y.1 y.2 r with
  | none => exact ⟨rfl, rfl⟩
  | some z => simp
theorem runB_none {b : Int} {T : List (Int × Int)} {L : List (List (Int × Int))} {lo hi : List Int} {d : (List (Int × Int)) × Int × Int} {r : List ((List (Int × Int)) × Int × Int)} (h : boxS b T L lo hi d = none) : runB b T L lo hi (d :: r) = none := by
  unfold runB; rw [h]; rfl
theorem p119 {a b : Int} {T : List (Int × Int)} {L : List (List (Int × Int))} {lo hi : List Int} {l : List ((List (Int × Int)) × Int × Int)} (H : BoxOk a b T L lo hi) (hz : spansErrV a L l = 0) : r180 a b T L T L lo hi l = some (bxF (runB b T L lo hi l) []) := by
  obtain ⟨h200, hok⟩ := spans_ok hz
  unfold r180
  refine iter_suf (τ := List (List Int × List Int) × List Int × List Int) l (b180_1 a b T L T L l) (fun i t => (t.1, (i : Int), t.2.1, t.2.2)) (fun r t => some (bxF (runB b T L t.2.1 t.2.2 r) t.1)) (fun i t => t.1.length = i ∧ BoxOk a b T L t.2.1 t.2.2) (by omega) ?_ ?_ ([], lo, hi) ⟨rfl, H⟩
  · rintro i ⟨out, lo', hi'⟩ r hi ⟨hlen, R⟩ hdr
    simp only at hlen R
    have hd1 := hok _ (getD_mem hi)
    simp only [b180_1, ltN hi, if_true, if_pos (rgN hi), Int.toNat_natCast, wS i (by omega), p117 R hd1, bindC]
    cases hb : boxS b T L lo' hi' (l.getD i default) with
    | none =>
      right
      rw [runB_none hb]; rfl
    | some y =>
      left
      rw [show bxR (some y) = (y.1, y.2, 0) from rfl, if_neg (show ¬ (((y.1, y.2, (0 : Int)).2.2 != 0) = true) by simp), if_pos ⟨by omega, by omega⟩]
      exact ⟨(out ++ [y], y.1, y.2), rfl, ⟨by simp [hlen], R.next hd1 hb⟩, by rw [(bxF_cons hb).1]⟩
  · rintro ⟨out, lo', hi'⟩ R
    simp only [b180_1]
    rw [if_neg (by simp)]
    simp [runB, bxF]
theorem runB_len {b : Int} {T : List (Int × Int)} {L : List (List (Int × Int))} : ∀ (l : List ((List (Int × Int)) × Int × Int)) (lo hi : List Int) (z : List (List Int × List Int)), runB b T L lo hi l = some z → z.length = l.length ∧ ∀ x ∈ z, x.1.length = lo.length ∧ x.2.length = hi.length
  | [], lo, hi, z, h => by cases h; exact ⟨rfl, by simp⟩
  | d :: r, lo, hi, z, h => by
    unfold runB at h
    cases hb : boxS b T L lo hi d with
    | none => rw [hb] at h; cases h
    | some y =>
      rw [hb, Option.bind_some] at h
      have hyl : y.1.length = lo.length ∧ y.2.length = hi.length := by
        unfold boxS at hb
        split at hb
        · cases hb; exact ⟨outS_len .., outS_len ..⟩
        · cases hb
      cases hr : runB b T L y.1 y.2 r with
      | none => rw [hr] at h; cases h
      | some w =>
        rw [hr] at h; cases h
        obtain ⟨h1, h2⟩ := runB_len r _ _ w hr
        refine ⟨by simp [h1], fun x hx => ?_⟩
        rcases List.mem_cons.1 hx with rfl | hx
        · exact hyl
        · have := h2 x hx; omega
end Go.Proofs.YthldpejmofhaoaaGreatDoor

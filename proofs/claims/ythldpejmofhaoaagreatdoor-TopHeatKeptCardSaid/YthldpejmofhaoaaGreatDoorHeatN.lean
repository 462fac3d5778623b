/- Runs: the states after all steps, in the code and in the reference. -/
import Derived.Test.YthldpejmofhaoaaGreatDoorF02
import Derived.Test.YthldpejmofhaoaaGreatDoorF06
import Derived.Test.YthldpejmofhaoaaGreatDoorF07
import Derived.Test.YthldpejmofhaoaaGreatDoorHeatS
set_option linter.unusedVariables false
set_option linter.unusedSimpArgs false
namespace Go.Proofs.YthldpejmofhaoaaGreatDoor
open Go.Abs

/-- the first error of drives -/
def drivesE (a : Int) (L : List (List (Int × Int))) : List (List Int × Int) → Int
  | [] => 0
  | d :: r => if driveErrV a L d.1 d.2 = 0 then drivesE a L r else driveErrV a L d.1 d.2
def drivesErrV (a : Int) (L : List (List (Int × Int))) (l : List (List Int × Int)) : Int := if 200 < l.length then 8 else drivesE a L l
theorem drives_ok {a : Int} {L : List (List (Int × Int))} : ∀ {l : List (List Int × Int)}, drivesE a L l = 0 → ∀ d ∈ l, driveErrV a L d.1 d.2 = 0
  | [], _, d, hd => by simp at hd
  | x :: r, h, d, hd => by
    unfold drivesE at h
    split at h
    · rename_i hx
      rcases List.mem_cons.1 hd with rfl | hd
      · exact hx
      · exact drives_ok h d hd
    · rename_i hx; exact absurd h hx
theorem p158 (a b : Int) (T : List (Int × Int)) (L : List (List (Int × Int))) (T' : List (Int × Int)) (L' : List (List (Int × Int))) (l : List (List Int × Int)) (h : L'.length < 1000) (hl : l.length < 1000000) (hdl : ∀ d ∈ l, d.1.length < 1000000) : r177 a b T L T' L' l = some (drivesErrV a L' l) := by
  unfold r177 drivesErrV
  rw [p94, Option.bind_some]
  have hh := iter_suf (fuel := 1000000000) l (b177_1 a b T L T' L' l) (fun i e => (e, (i : Int))) (fun r e => some (if e = 0 then drivesE a L' r else e)) (fun _ _ => True) (by omega) (fun i e r hi _ _ => by
      have e1 := p92 a b T L T' L' (l.getD i default).1 (l.getD i default).2 h (by have := hdl _ (getD_mem hi); omega)
      simp only [b177_1, ltN hi, if_true, if_pos (rgN hi), Int.toNat_natCast, wS i (by omega), e1, bindC, drivesE]
      left
      rw [p91 _ (by simp), firstV2]
      refine ⟨firstE e (driveErrV a L' (l.getD i default).1 (l.getD i default).2), rfl, trivial, ?_⟩
      unfold firstE
      by_cases he : e = 0
      · rw [if_pos he, if_pos he]
      · rw [if_neg he, if_neg he, if_neg he]) (fun e _ => by
      simp only [b177_1]
      rw [if_neg (by simp)]
      simp only [drivesE]
      by_cases he : e = 0
      · rw [if_pos he, he]
      · rw [if_neg he]) (codeIf (decide ((l.length : Int) ≤ 200)) 8) trivial
  rw [show ((0 : Nat) : Int) = 0 from rfl] at hh
  rw [hh]
  by_cases h2 : 200 < l.length
  · have : decide ((l.length : Int) ≤ 200) = false := by rw [decide_eq_false_iff_not]; omega
    rw [if_pos h2, this]; rfl
  · have : decide ((l.length : Int) ≤ 200) = true := by rw [decide_eq_true_eq]; omega
    rw [if_neg h2, this]; rfl

/-- the states after all steps, and what is lost; none: the table is left -/
def runS (b : Int) (T : List (Int × Int)) (L : List (List (Int × Int))) : List Int → List (List Int × Int) → Option (List (List Int) × Int)
  | _, [] => some ([], 0)
  | s, d :: r =>
    if (outS b T (L.getD d.2.toNat default) s d.1).all (inT T) = true then
      (runS b T L (outS b T (L.getD d.2.toNat default) s d.1) r).map fun y => (outS b T (L.getD d.2.toNat default) s d.1 :: y.1, lossS T (L.getD d.2.toNat default) (hd (mixS b T s)) + y.2)
    else none
def runF (o : Option (List (List Int) × Int)) (out : List (List Int)) (lost : Int) : List (List Int) × Int × Int := (o.map fun y => (out ++ y.1, lost + y.2, (0 : Int))).getD ([], 0, 22)
def runG (o : Option (List (List Int) × Int)) (out : List (List Int)) (lost : Int) : List (List Int) × Int × Bool := (o.map fun y => (out ++ y.1, lost + y.2, true)).getD ([], 0, false)
theorem runF_cons {b : Int} {T : List (Int × Int)} {L : List (List (Int × Int))} {s : List Int} {d : List Int × Int} {r : List (List Int × Int)} {out : List (List Int)} {lost : Int} (h : (outS b T (L.getD d.2.toNat default) s d.1).all (inT T) = true) :
    runF (runS b T L s (d :: r)) out lost = runF (runS b T L (outS b T (L.getD d.2.toNat default) s d.1) r) (out ++ [outS b T (L.getD d.2.toNat default) s d.1]) (lost + lossS T (L.getD d.2.toNat default) (hd (mixS b T s))) := by
  conv => lhs; unfold runS
  rw [if_pos h]
  unfold runF
  cases runS b T L (outS b T (L.getD d.2.toNat default) s d.1) r with
  | none => rfl
  | some y => simp [Int.add_assoc]
theorem runG_cons {b : Int} {T : List (Int × Int)} {L : List (List (Int × Int))} {s : List Int} {d : List Int × Int} {r : List (List Int × Int)} {out : List (List Int)} {lost : Int} (h : (outS b T (L.getD d.2.toNat default) s d.1).all (inT T) = true) :
    runG (runS b T L s (d :: r)) out lost = runG (runS b T L (outS b T (L.getD d.2.toNat default) s d.1) r) (out ++ [outS b T (L.getD d.2.toNat default) s d.1]) (lost + lossS T (L.getD d.2.toNat default) (hd (mixS b T s))) := by
  conv => lhs; unfold runS
  rw [if_pos h]
  unfold runG
  cases runS b T L (outS b T (L.getD d.2.toNat default) s d.1) r with
  | none => rfl
  | some y => simp [Int.add_assoc]
theorem run_none {b : Int} {T : List (Int × Int)} {L : List (List (Int × Int))} {s : List Int} {d : List Int × Int} {r : List (List Int × Int)} (h : ¬ (outS b T (L.getD d.2.toNat default) s d.1).all (inT T) = true) : runS b T L s (d :: r) = none := by
  unfold runS; rw [if_neg h]
theorem run_len {b : Int} {T : List (Int × Int)} {L : List (List (Int × Int))} : ∀ (l : List (List Int × Int)) (s : List Int) (y : List (List Int) × Int), runS b T L s l = some y → y.1.length = l.length ∧ ∀ x ∈ y.1, x.length = s.length
  | [], s, y, h => by cases h; exact ⟨rfl, by simp⟩
  | d :: r, s, y, h => by
    unfold runS at h
    split at h
    · cases hr : runS b T L (outS b T (L.getD d.2.toNat default) s d.1) r with
      | none => rw [hr] at h; cases h
      | some z =>
        rw [hr] at h; cases h
        obtain ⟨h1, h2⟩ := run_len r _ z hr
        refine ⟨by simp [h1], fun x hx => ?_⟩
        rcases List.mem_cons.1 hx with rfl | hx
        · exact outS_len ..
        · rw [h2 x hx, outS_len]
    · cases h
structure RunI (a b : Int) (T : List (Int × Int)) (L : List (List (Int × Int))) (i : Nat) (out : List (List Int)) (lost : Int) (now : List Int) : Prop where
  len : out.length = i
  rng : 0 ≤ lost ∧ lost ≤ 1000 * i
  all : AllOk a b T L now
def runV (a b : Int) (T : List (Int × Int)) (L : List (List (Int × Int))) (s : List Int) (l : List (List Int × Int)) : List (List Int) × Int × Int :=
  if stErr a b T L s = 0 then (if drivesErrV a L l = 0 then runF (runS b T L s l) [] 0 else ([], 0, drivesErrV a L l)) else ([], 0, stErr a b T L s)
theorem drivesE_of {a : Int} {L : List (List (Int × Int))} {l : List (List Int × Int)} (h : drivesErrV a L l = 0) : l.length ≤ 200 ∧ ∀ d ∈ l, driveErrV a L d.1 d.2 = 0 := by
  unfold drivesErrV at h
  split at h
  · cases h
  · exact ⟨by omega, drives_ok h⟩
theorem p132 (a b : Int) (T : List (Int × Int)) (L : List (List (Int × Int))) (s : List Int) (l : List (List Int × Int)) (hT : T.length < 1000) (hn : L.length < 1000) (hL : ∀ x ∈ L, x.length < 1000) (hs : s.length < 1000000) (hl : l.length < 1000000) (hdl : ∀ d ∈ l, d.1.length < 1000000) :
    r86 a b T L s l = some (runV a b T L s l) := by
  unfold r86 runV
  rw [p89 a b T L s hT hn hL hs, Option.bind_some]
  by_cases h : stErr a b T L s = 0
  · have H := allOk_of h
    rw [H.open, if_pos (by rfl), if_pos h]
    simp only
    rw [p158 a b T L T L l hn hl hdl, Option.bind_some]
    by_cases hz : drivesErrV a L l = 0
    · rw [if_neg (by simpa using hz), if_pos hz]
      obtain ⟨h200, hok⟩ := drivesE_of hz
      refine iter_suf (τ := List (List Int) × Int × List Int) l (b86_1 l (a, b, T, L, T, L, 0)) (fun i t => (t.1, t.2.1, t.2.2, (i : Int))) (fun r t => some (runF (runS b T L t.2.2 r) t.1 t.2.1)) (fun i t => RunI a b T L i t.1 t.2.1 t.2.2) (by omega) ?_ ?_ ([], 0, s) (show RunI a b T L 0 [] 0 s from ⟨rfl, by omega, H⟩)
      · rintro i ⟨out, lost, now⟩ r hi R hdr
        replace R : RunI a b T L i out lost now := R
        have hd1 := hok _ (getD_mem hi)
        have hb := R.rng
        have hlen := R.len
        have e1 := p96 R.all.ok (R.all.step hd1)
        have hlr := loss_rng R.all.ok (hd (mixS b T now)) (drive_ok hd1).2.2
        simp only [b86_1, ltN hi, if_true, if_pos (rgN hi), Int.toNat_natCast, wS i (by omega), e1, bindC]
        by_cases hc : (outS b T (L.getD (l.getD i default).2.toNat default) now (l.getD i default).1).all (inT T) = true
        · left
          rw [if_pos hc, if_neg (by decide), if_pos ⟨by omega, by omega⟩, IntWalk.i64_in _ ⟨by omega, by omega⟩]
          exact ⟨(_, _, _), rfl, RunI.mk (by simp [hlen]) (show 0 ≤ lost + _ ∧ lost + _ ≤ 1000 * ((i + 1 : Nat) : Int) by omega) (R.all.next hc), by simp only; rw [runF_cons hc]; rfl⟩
        · right
          rw [if_neg hc, if_pos (by decide), run_none hc]; rfl
      · rintro ⟨out, lost, now⟩ R
        simp only [b86_1]
        rw [if_neg (by simp)]
        simp [runS, runF]
    · rw [if_pos (by simpa using hz), if_neg hz]
  · rw [if_neg h]
    have ho : (openV a b T L s).2.2.2.2.2.2 = stErr a b T L s := by unfold openV stErr; split <;> rfl
    rw [if_neg (by rw [ho]; simpa using h), if_pos (by rw [ho]; simpa using h), ho]
/-- sums -/
def sumW : Int → List Int → Int
  | acc, [] => acc
  | acc, x :: r => sumW (IntKind.i64.wrap (acc + x)) r
theorem p133 (l : List Int) (hl : l.length < 1000000000) : r87 l = some (sumW 0 l) := by
  unfold r87
  refine iter_suf (τ := Int) l (b87_1 l) (fun i t => (t, (i : Int))) (fun r t => some (sumW t r)) (fun _ _ => True) hl (fun i t r hi _ _ => ?_) (fun t _ => by simp [b87_1, sumW]) 0 trivial
  left
  simp only [b87_1, ltN hi, if_true, if_pos (rgN hi), Int.toNat_natCast, wS i (by omega)]
  exact ⟨_, rfl, trivial, rfl⟩
def inW : Int → List (List Int × Int) → Int
  | acc, [] => acc
  | acc, d :: r => inW (IntKind.i64.wrap (acc + sumW 0 d.1)) r
def mx (x y : Int) : Int := if x < y then y else x
def peaksS (s : List Int) : List (List Int) → List Int
  | [] => s
  | x :: r => peaksS (zipG mx s x) r
theorem zipG_len (g : Int → Int → Int) : ∀ l m : List Int, (zipG g l m).length = l.length
  | [], _ => rfl
  | x :: r, [] => rfl
  | x :: r, y :: m => by simp [zipG, zipG_len g r m]
theorem zipG_get (g : Int → Int → Int) : ∀ (l m : List Int) (i : Nat), l.length = m.length → i < l.length → (zipG g l m).getD i default = g (l.getD i default) (m.getD i default)
  | [], _, i, _, h => by simp at h
  | x :: l, [], i, h, _ => by simp at h
  | x :: l, y :: m, 0, _, _ => by simp [zipG]
  | x :: l, y :: m, i + 1, h, h2 => by
    have := zipG_get g l m i (by simpa using h) (by simpa using h2)
    simpa [zipG] using this
theorem p134 (s : List Int) (st : List (List Int)) (hs : s.length < 1000000) (hl : st.length < 1000000) (h : ∀ x ∈ st, x.length = s.length) : r182 s st = some (peaksS s st) := by
  unfold r182 r173
  rw [if_pos ⟨by omega, by omega⟩, Option.bind_some]
  refine iter_suf (τ := List Int) st (b182_1 st) (fun i t => ((i : Int), t)) (fun r t => some (peaksS t r)) (fun _ t => t.length = s.length) (by omega) (fun i t r hi ht _ => ?_) (fun t _ => by simp [b182_1, peaksS]) s rfl
  left
  have hx := h _ (getD_mem hi)
  refine ⟨zipG mx t (st.getD i default), ?_, by rw [zipG_len]; exact ht, rfl⟩
  have m3 := iter_zip (b182_2 st ((i : Int), t)) mx (st.getD i default) (fun l' => some (.next (IntKind.i64.wrap ((i : Int) + 1), l')))
    (fun j l' hj hl' => by
      simp only [b182_2, Int.toNat_natCast, ltN hj, if_true, if_pos (rgN hj), if_pos (rgN (show j < l'.length by omega)), wS j (by omega)]
      rfl)
    (fun l' hl' => by simp [b182_2]) t (st.getD i default) [] [] 1000000000 rfl (by omega) rfl (by omega)
  simp only [List.nil_append, List.length_nil] at m3
  rw [show ((0 : Nat) : Int) = 0 from rfl] at m3
  simp only [b182_1, ltN hi, if_true, if_pos (rgN hi)]
  rw [m3, wS i (by omega)]; rfl
end Go.Proofs.YthldpejmofhaoaaGreatDoor

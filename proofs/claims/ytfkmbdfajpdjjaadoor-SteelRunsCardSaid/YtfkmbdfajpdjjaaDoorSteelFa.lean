/- SteelFaster as a plain law. -/
import Derived.Test.YtfkmbdfajpdjjaaDoorSteelSh
import Derived.Test.YtfkmbdfajpdjjaaDoorF09
set_option linter.unusedVariables false
set_option linter.unusedSimpArgs false
namespace Go.Proofs.YtfkmbdfajpdjjaaDoor
open Go.Abs

theorem p24 (l : List Int) (h : l.length < 1000000000) : r24 l = some l := by
  unfold r24; rw [if_pos ⟨by omega, by omega⟩]
/-- the state after a curve -/
def runV (H : List (Int × Int × Int × Int)) (C : List (Int × Int × Int × Int × Int)) (Q : List (Int × Int × Int)) (T : List (Int × Int)) (ph pc pq : Int) : List Int → St7 → St7
  | [], x => x
  | k :: l, x => runV H C Q T ph pc pq l (stepV H C Q T k ph pc pq x.1 x.2.1 x.2.2.1 x.2.2.2.1 x.2.2.2.2.1 x.2.2.2.2.2.1 x.2.2.2.2.2.2)
theorem p74 (l : List Int) (hl : l.length < 1000000000) : r74 l = some (curveE l) := by
  have h : r110a l = some (if lead (fun x => inR x 1 3000) l < l.length then (lead (fun x => inR x 1 3000) l : Int) else -1) := by
    unfold r110a
    have h := iter_lead l (b110a_1 l) (fun x => inR x 1 3000) (fun i => some (if i < l.length then i else -1)) hl (fun i hi => by
      refine (if_pos (ltN hi)).trans ((if_pos (rgN hi)).trans ?_)
      rw [wS i (by omega)]
      show (if (!inR (l.getD i default) 1 3000) = true then _ else _) = _
      by_cases g : inR (l.getD i default) 1 3000 = true
      · rw [if_neg (by rw [g]; decide), if_pos g]
      · rw [if_pos (by simpa using g), if_neg g, if_pos (by omega)]) ((if_neg (by simp)).trans (by simp))
    rw [h]
    congr 1
    by_cases g : lead (fun x => inR x 1 3000) l < l.length
    · rw [if_pos g, if_pos (by omega)]
    · rw [if_neg g, if_neg (by omega)]
  have hz : ∀ r : List Int, firstV (r.map kelE) = if lead (fun x => inR x 1 3000) r < r.length then 2 else 0 := by
    intro r
    induction r with
    | nil => rfl
    | cons x r ih =>
      unfold lead
      by_cases g : inR x 1 3000 = true
      · simp only [List.map_cons, firstV, kelE, g, if_true, List.length_cons]
        rw [ih]
        by_cases g2 : lead (fun x => inR x 1 3000) r < r.length
        · rw [if_pos g2, if_pos (by omega)]
        · rw [if_neg g2, if_neg (by omega)]
      · simp only [List.map_cons, firstV, kelE, if_neg g, List.length_cons]
        rw [if_neg (by decide), if_pos (by omega)]
  unfold r74 r64a
  rw [h, Option.bind_some, Option.bind_some, p68, Option.bind_some, p68, Option.bind_some, p67 _ (by simp), Option.bind_some]
  unfold curveE
  rw [firstV2, hz]
  by_cases h2 : 200 < l.length
  · have : (decide ((l.length : Int) ≤ 200)) = false := decide_eq_false (by omega)
    rw [this, if_pos h2]; rfl
  · have : (decide ((l.length : Int) ≤ 200)) = true := decide_eq_true (by omega)
    rw [this, if_neg h2]
    by_cases g : lead (fun x => inR x 1 3000) l < l.length
    · rw [if_pos g, if_pos g]
      have : (decide ((lead (fun x => inR x 1 3000) l : Int) ≥ 0)) = true := decide_eq_true (by omega)
      rw [this]; rfl
    · rw [if_neg g, if_neg g]; rfl
section
variable {H : List (Int × Int × Int × Int)} {C : List (Int × Int × Int × Int × Int)} {Q : List (Int × Int × Int)} {T : List (Int × Int)} {a b c d : Int}
theorem run_ok (ok : KnOk H C Q T) {ph pc pq : Int} (hph : 0 ≤ ph ∧ ph ≤ 1000) (hpc : 0 ≤ pc ∧ pc ≤ 1000) (hpq : 0 ≤ pq ∧ pq ≤ 1000) : ∀ (l : List Int) (x : St7), StO x → StO (runV H C Q T ph pc pq l x)
  | [], x, h => h
  | k :: l, x, h => run_ok ok hph hpc hpq l _ (step_ok ok (k := k) hph hpc hpq h).1
theorem p75 (ok : KnOk H C Q T) {ph pc pq p s e m w g t : Int} (hph : 0 ≤ ph ∧ ph ≤ 1000) (hpc : 0 ≤ pc ∧ pc ≤ 1000) (hpq : 0 ≤ pq ∧ pq ≤ 1000) (l : List Int) (hl : l.length < 1000000000) (st : StOk p s e m w g t) :
    r75 H C Q T a b c d p s e m w g t l ph pc pq = some (runV H C Q T ph pc pq l (p, s, e, m, w, g, t)) := by
  unfold r75
  have key : ∀ (k i fuel : Nat) (x : St7), i + k = l.length → k < fuel → StO x → iterC (b75_1 H C Q T a b c d l ph pc pq) fuel ((i : Int), x) = some (runV H C Q T ph pc pq (l.drop i) x) := by
    intro k
    induction k with
    | zero =>
      intro i fuel x hi hf hx
      obtain ⟨n, rfl⟩ : ∃ n, fuel = n + 1 := ⟨fuel - 1, by omega⟩
      obtain rfl : i = l.length := by omega
      have : b75_1 H C Q T a b c d l ph pc pq ((l.length : Int), x) = .out (some x) := if_neg (by simp)
      simp only [iterC, this, List.drop_length, runV]
    | succ k ih =>
      intro i fuel x hi hf hx
      obtain ⟨n, rfl⟩ : ∃ n, fuel = n + 1 := ⟨fuel - 1, by omega⟩
      have hlt : i < l.length := by omega
      have hd : l.drop i = l.getD i default :: l.drop (i + 1) := by
        rw [List.drop_eq_getElem_cons hlt]; simp [List.getD_eq_getElem?_getD, hlt]
      obtain ⟨p, s, e, m, w, g, t⟩ := x
      have hx : StOk p s e m w g t := hx
      have e1 : b75_1 H C Q T a b c d l ph pc pq ((i : Int), p, s, e, m, w, g, t) = .next ((i : Int) + 1, stepV H C Q T (l.getD i default) ph pc pq p s e m w g t) := by
        refine (if_pos (ltN hlt)).trans ((if_pos (rgN hlt)).trans ?_)
        show bindC (r85 H C Q T a b c d p s e m w g t (l.getD i default) ph pc pq) _ = _
        rw [p85 H C Q T a b c d ok hph hpc hpq hx]
        show Ctl.next (IntKind.i64.wrap ((i : Int) + 1), _) = _
        rw [wS i (by omega)]
      simp only [iterC, e1]
      rw [hd]
      exact ih (i + 1) n _ (by omega) (by omega) (step_ok ok hph hpc hpq hx).1
  exact key l.length 0 1000000000 (p, s, e, m, w, g, t) (by omega) hl st
theorem p23 (ok : RulOk H C Q T a b c d) {v : Int × Int} (hv : rulV H C Q T a b c d = some v) (h0 : v.2 = 0) {ph pc pq p s e m w g t : Int} (hp : pickE ph pc pq = 0) (l : List Int) (hl : curveE l = 0) (st : StOk p s e m w g t) :
    r23 H C Q T a b c d p s e m w g t l ph pc pq = some ((runV H C Q T ph pc pq l (p, s, e, m, w, g, t)).1, (runV H C Q T ph pc pq l (p, s, e, m, w, g, t)).2.1, (runV H C Q T ph pc pq l (p, s, e, m, w, g, t)).2.2.1, (runV H C Q T ph pc pq l (p, s, e, m, w, g, t)).2.2.2.1, (runV H C Q T ph pc pq l (p, s, e, m, w, g, t)).2.2.2.2.1, (runV H C Q T ph pc pq l (p, s, e, m, w, g, t)).2.2.2.2.2.1, (runV H C Q T ph pc pq l (p, s, e, m, w, g, t)).2.2.2.2.2.2, 0) := by
  have l1 := ok.lH; have l2 := ok.lC; have l3 := ok.lQ; have l4 := ok.lT
  have hc := (curve_ok hl).1
  obtain ⟨k1, k2, k3⟩ := pick_ok hp
  unfold r23
  rw [p73 ⟨by omega, by omega, by omega, by omega⟩ hv, Option.bind_some, p17, Option.bind_some, staE_of st, h0, p74 l (by omega), Option.bind_some, hl, p19, Option.bind_some, hp, p67 _ (by simp), Option.bind_some]
  refine (if_neg (by decide)).trans ?_
  rw [p75 ok.toKnOk k1 k2 k3 l (by omega) st]
  rfl
theorem pk_mono {lo hi x y : Int} (h : lo ≤ hi) (hx : 0 ≤ x) (hxy : x ≤ y) : pkV lo hi x ≤ pkV lo hi y := by
  unfold pkV
  have a1 : 0 ≤ (hi - lo) * x := Int.mul_nonneg (by omega) hx
  have a2 : (hi - lo) * x ≤ (hi - lo) * y := Int.mul_le_mul_of_nonneg_left hxy (by omega)
  rw [Int.tdiv_eq_ediv_of_nonneg a1, Int.tdiv_eq_ediv_of_nonneg (by omega)]
  generalize (hi - lo) * x = u at a1 a2
  generalize (hi - lo) * y = z at a2
  omega
theorem hot_run (ok : KnOk H C Q T) {ph pc pq ph' pc' pq' : Int} (h1 : 0 ≤ ph ∧ ph ≤ 1000) (h2 : 0 ≤ pc ∧ pc ≤ 1000) (h3 : 0 ≤ pq ∧ pq ≤ 1000) (g1 : 0 ≤ ph' ∧ ph' ≤ 1000) (g2 : 0 ≤ pc' ∧ pc' ≤ 1000) (g3 : 0 ≤ pq' ∧ pq' ≤ 1000) (hle : ph ≤ ph') :
    ∀ (l : List Int) (x y : St7), (∀ k ∈ l, heatAt H k ≠ none) → StO x → StO y → x.2.1 ≤ y.2.1 → (runV H C Q T ph pc pq l x).2.1 ≤ (runV H C Q T ph' pc' pq' l y).2.1
  | [], x, y, _, _, _, h => h
  | k :: l, x, y, hk, hx, hy, h => by
    refine hot_run ok h1 h2 h3 g1 g2 g3 hle l _ _ (fun j hj => hk j (by simp [hj])) (step_ok ok (k := k) h1 h2 h3 hx).1 (step_ok ok (k := k) g1 g2 g3 hy).1 ?_
    unfold stepV
    cases hh : heatAt H k with
    | none => exact absurd hh (hk k (by simp))
    | some z =>
      have hz := ok.kh z (lastP_mem hh).1
      have hm := pk_mono hz.1.2.1 h1.1 hle
      show x.2.1 + capV (pkV z.2.1 z.2.2.1 ph) (x.1 + (x.2.2.1 + x.2.2.2.1)) ≤ y.2.1 + capV (pkV z.2.1 z.2.2.1 ph') (y.1 + (y.2.2.1 + y.2.2.2.1))
      have s1 := hx.sum
      have s2 := hy.sum
      unfold capV
      split <;> split <;> omega
theorem mar_mono {K m m' x x' A A' : Int} (h1 : A + m = K) (h2 : A' + m' = K) (hm : m ≤ m') (hK : 0 ≤ K) (hx : 0 ≤ x) (hxx : x ≤ x') : marV A m x ≤ marV A' m' x' := by
  unfold marV
  rw [h1, h2]
  have a1 : 0 ≤ K * x := Int.mul_nonneg hK hx
  have a2 : K * x ≤ K * x' := Int.mul_le_mul_of_nonneg_left hxx hK
  rw [Int.tdiv_eq_ediv_of_nonneg a1, Int.tdiv_eq_ediv_of_nonneg (by omega)]
  generalize K * x = u at a1 a2
  generalize K * x' = z at a2
  split <;> split <;> omega
theorem cold_run (ok : KnOk H C Q T) (hC : C = []) {ph pc pq ph' pc' pq' : Int} (h1 : 0 ≤ ph ∧ ph ≤ 1000) (h2 : 0 ≤ pc ∧ pc ≤ 1000) (h3 : 0 ≤ pq ∧ pq ≤ 1000) (g1 : 0 ≤ ph' ∧ ph' ≤ 1000) (g2 : 0 ≤ pc' ∧ pc' ≤ 1000) (g3 : 0 ≤ pq' ∧ pq' ≤ 1000) (hle : pq ≤ pq') :
    ∀ (l : List Int) (x y : St7), (∀ k ∈ l, heatAt H k = none) → StO x → StO y → x.2.1 + x.2.2.2.1 = y.2.1 + y.2.2.2.1 → x.2.2.2.1 ≤ y.2.2.2.1 → (runV H C Q T ph pc pq l x).2.2.2.1 ≤ (runV H C Q T ph' pc' pq' l y).2.2.2.1
  | [], x, y, _, _, _, _, h => h
  | k :: l, x, y, hk, hx, hy, hs, h => by
    have e : ∀ (ph pc pq : Int) (x : St7), stepV H C Q T k ph pc pq x.1 x.2.1 x.2.2.1 x.2.2.2.1 x.2.2.2.2.1 x.2.2.2.2.2.1 x.2.2.2.2.2.2 = tailV (coldAt Q k) (tempAt T k) pq x.1 x.2.1 x.2.2.1 x.2.2.2.1 x.2.2.2.2.1 x.2.2.2.2.2.1 x.2.2.2.2.2.2 := fun ph pc pq x => by
      unfold stepV
      rw [hk k (by simp), hC]; rfl
    have hm : marO (coldAt Q k) pq x.2.1 x.2.2.2.1 ≤ marO (coldAt Q k) pq' y.2.1 y.2.2.2.1 := by
      cases hc : coldAt Q k with
      | none => exact h
      | some z =>
        have hz := ok.kq z (List.mem_of_find?_eq_some hc)
        have b := pk_bounds hz.1 hz.2.1 hz.2.2 h3.1 h3.2
        have a1 := hx.ha; have a2 := hx.hm
        exact mar_mono rfl hs.symm h (by omega) (by omega) (pk_mono hz.2.1 h3.1 hle)
    refine cold_run ok hC h1 h2 h3 g1 g2 g3 hle l _ _ (fun j hj => hk j (by simp [hj])) (step_ok ok (k := k) h1 h2 h3 hx).1 (step_ok ok (k := k) g1 g2 g3 hy).1 ?_ ?_
    · rw [e, e]
      show x.2.1 - (marO (coldAt Q k) pq x.2.1 x.2.2.2.1 - x.2.2.2.1) + marO (coldAt Q k) pq x.2.1 x.2.2.2.1 = y.2.1 - (marO (coldAt Q k) pq' y.2.1 y.2.2.2.1 - y.2.2.2.1) + marO (coldAt Q k) pq' y.2.1 y.2.2.2.1
      omega
    · rw [e, e]; exact hm
end
end Go.Proofs.YtfkmbdfajpdjjaaDoor

/- SteelShares as a plain law. -/
import Derived.Test.YtfkmbdfajpdjjaaDoorSteelT
import Derived.Test.YtfkmbdfajpdjjaaDoorF11
set_option linter.unusedVariables false
set_option linter.unusedSimpArgs false
namespace Go.Proofs.YtfkmbdfajpdjjaaDoor
open Go.Abs

/-- a loop whose rounds all pass -/
theorem iter_all {σ : Type} (n : Nat) (hn : n < 1000000000) (B : (Int × σ) → Ctl (Int × σ) Bool) (I : σ → Prop) (step : ∀ (i : Nat) (s : σ), i < n → I s → ∃ s', B ((i : Int), s) = .next ((i : Int) + 1, s') ∧ I s')
    (stop : ∀ s, I s → B ((n : Int), s) = .out (some true)) (s0 : σ) (h0 : I s0) : iterC B 1000000000 (0, s0) = some true := by
  have key : ∀ (k i fuel : Nat) (s : σ), i + k = n → k < fuel → I s → iterC B fuel ((i : Int), s) = some true := by
    intro k
    induction k with
    | zero =>
      intro i fuel s hi hf hs
      obtain ⟨m, rfl⟩ : ∃ m, fuel = m + 1 := ⟨fuel - 1, by omega⟩
      obtain rfl : i = n := by omega
      simp only [iterC, stop s hs]
    | succ k ih =>
      intro i fuel s hi hf hs
      obtain ⟨m, rfl⟩ : ∃ m, fuel = m + 1 := ⟨fuel - 1, by omega⟩
      obtain ⟨s', h1, h2⟩ := step i s (by omega) hs
      simp only [iterC, h1]
      exact ih (i + 1) m s' (by omega) (by omega) h2
  exact key n 0 1000000000 s0 (by omega) hn h0
def kelE (k : Int) : Int := if inR k 1 3000 then 0 else 2
def curveE (l : List Int) : Int := if 200 < l.length then 8 else firstV (l.map kelE)
theorem p22 (l : List Int) (hl : l.length < 1000000000) : r22 l = some (curveE l) := by
  unfold r22 curveE
  by_cases h : 200 < l.length
  · rw [if_pos h]; exact if_pos (by simp; omega)
  · rw [if_neg h]
    refine (if_neg (by simp; omega)).trans ?_
    have h := iter_list (τ := Unit) l (b22_1 l) (fun i _ => i) (fun _ _ x => if kelE x = 0 then .next () else .out (some (kelE x))) (fun _ => some 0) hl
      (fun i t hi => by
        refine (if_pos (ltN hi)).trans ((if_pos (rgN hi)).trans ?_)
        rw [show r32 (l.getD (i : Int).toNat default) = some (kelE (l.getD i default)) from p32 _, wS i (by omega)]
        show (if (kelE (l.getD i default) != 0) = true then _ else _) = _
        generalize kelE (l.getD i default) = z
        by_cases hz : z = 0
        · simp only [hz, if_true, mapC]; rfl
        · simp only [if_neg hz, mapC]; exact if_pos (by simpa using hz))
      (fun t => if_neg (by simp)) ()
    rw [h]
    have key : ∀ (r : List Int) (i : Int), foldC (fun _ _ x => if kelE x = 0 then Ctl.next () else .out (some (kelE x))) (fun _ : Unit => some 0) i r () = some (firstV (r.map kelE)) := by
      intro r
      induction r with
      | nil => intro i; rfl
      | cons x r ih =>
        intro i
        by_cases hx : kelE x = 0
        · simp only [foldC, hx, if_true, List.map_cons, firstV]; exact ih _
        · simp only [foldC, if_neg hx, List.map_cons, firstV]
    exact key l 0
theorem fz {l : List Int} (h : firstV l = 0) : ∀ x ∈ l, x = 0 := by
  induction l with
  | nil => intro x hx; cases hx
  | cons y l ih =>
    unfold firstV at h
    split at h
    · rename_i hy
      intro x hx
      rcases List.mem_cons.1 hx with rfl | hx
      · exact hy
      · exact ih h x hx
    · rename_i hy; exact absurd h hy
theorem curve_ok {l : List Int} (h : curveE l = 0) : l.length ≤ 200 ∧ ∀ k ∈ l, 1 ≤ k ∧ k ≤ 3000 := by
  unfold curveE at h
  split at h
  · exact absurd h (by decide)
  · refine ⟨by omega, fun k hk => ?_⟩
    have := fz h (kelE k) (List.mem_map.2 ⟨k, hk, rfl⟩)
    unfold kelE at this
    split at this
    · rename_i h1; exact inR_iff.1 h1
    · exact absurd this (by decide)
theorem pick_ok {x y z : Int} (h : pickE x y z = 0) : (0 ≤ x ∧ x ≤ 1000) ∧ (0 ≤ y ∧ y ≤ 1000) ∧ 0 ≤ z ∧ z ≤ 1000 := by
  unfold pickE at h
  split at h
  · rename_i h1
    simp only [Bool.and_eq_true] at h1
    exact ⟨inR_iff.1 h1.1.1, inR_iff.1 h1.1.2, inR_iff.1 h1.2⟩
  · exact absurd h (by decide)
theorem shares (H : List (Int × Int × Int × Int)) (C : List (Int × Int × Int × Int × Int)) (Q : List (Int × Int × Int)) (T : List (Int × Int)) (a b c d p s e m w g t : Int) (l : List Int) (ph pc pq : Int) :
    r6 H C Q T a b c d p s e m w g t l ph pc pq = some true := by
  obtain ⟨v, hv⟩ := rulV_some H C Q T a b c d
  unfold r6
  rw [awakeS, Option.bind_some]
  refine (if_neg (by decide)).trans ?_
  rw [p13, Option.bind_some]
  by_cases hf : H.length ≤ 10 ∧ C.length ≤ 10 ∧ Q.length ≤ 10 ∧ T.length ≤ 10
  · by_cases hl : 30 < l.length
    · have hl2 : (decide ((l.length : Int) > 30)) = true := decide_eq_true (by omega)
      simp only [hl2, Bool.or_true, Bool.true_or, Bool.not_true]
      refine (if_pos (fun h => by cases h)).trans ((if_pos (fun h => by cases h)).trans ((if_pos (fun h => by cases h)).trans ((if_pos (fun h => by cases h)).trans (if_pos trivial))))
    · have hl2 : (decide ((l.length : Int) > 30)) = false := decide_eq_false (by omega)
      have hf2 : (decide (H.length ≤ 10 ∧ C.length ≤ 10 ∧ Q.length ≤ 10 ∧ T.length ≤ 10)) = true := decide_eq_true hf
      simp only [hl2, hf2, p21 hv, p18, p22 l (by omega), p20, Option.isSome_some, Option.getD_some, implies_true]
      refine (if_pos trivial).trans ((if_pos trivial).trans ((if_pos trivial).trans ((if_pos trivial).trans ?_)))
      by_cases h0 : v.2 = 0
      · by_cases hs : staE p s e m w g t = 0
        · by_cases hc : curveE l = 0
          · by_cases hpk : pickE ph pc pq = 0
            · refine (if_neg (by simp [h0, hs, hc, hpk])).trans ?_
              have ok := rul_of hv h0
              have st := st_of hs
              obtain ⟨_, hk⟩ := curve_ok hc
              obtain ⟨k1, k2, k3⟩ := pick_ok hpk
              refine iter_all l.length (by omega) (b6_1 H C Q T a b c d l ph pc pq) StO (fun i x hi hx => ?_) (fun x hx => if_neg (by simp)) (p, s, e, m, w, g, t) st
              obtain ⟨p, s, e, m, w, g, t⟩ := x
              have hki := hk (l.getD i default) (getD_mem hi)
              obtain ⟨n1, n2, n3⟩ := step_ok ok.toKnOk (k := l.getD i default) k1 k2 k3 (show StOk p s e m w g t from hx)
              have q30 := p30 ok hv h0 (k := l.getD i default) hki k1 k2 k3 (show StOk p s e m w g t from hx)
              have q31 := p31 ok hv h0 n1
              have qhd := hd_bounds ok n1
              generalize stepV H C Q T (l.getD i default) ph pc pq p s e m w g t = N at n1 n2 n3 q30 q31 qhd
              refine ⟨N, ?_, n1⟩
              refine (if_pos (ltN hi)).trans ?_
              rw [p15 a b c d hf]
              refine (if_pos (rgN hi)).trans ?_
              rw [Int.toNat_natCast]
              show bindC (r30 H C Q T a b c d p s e m w g t (l.getD i default) ph pc pq) _ = _
              rw [q30]
              show (if (!((0 : Int) != 0)) = true → (r18 N.1 N.2.1 N.2.2.1 N.2.2.2.1 N.2.2.2.2.1 N.2.2.2.2.2.1 N.2.2.2.2.2.2).isSome = true then (if ((0 : Int) != 0 || (r18 N.1 N.2.1 N.2.2.1 N.2.2.2.1 N.2.2.2.2.1 N.2.2.2.2.2.1 N.2.2.2.2.2.2).getD default != 0) = true then _ else _) else _) = _
              rw [p18, staE_of n1]
              refine (if_pos (fun _ => rfl)).trans ((if_neg (by decide)).trans ((if_pos (fun _ => rgN hi)).trans ((if_pos (fun h => ⟨by decide, by simpa using h⟩)).trans ?_)))
              have fin : ∀ A : Ctl (Int × St7) Bool, (if (!((0 : Int) != 0)) = true → (r29 (hdV a b c d N.1 N.2.1 N.2.2.1 N.2.2.2.1 N.2.2.2.2.2.2) a d).isSome = true then (if ((0 : Int) != 0 || !((r29 (hdV a b c d N.1 N.2.1 N.2.2.1 N.2.2.2.1 N.2.2.2.2.2.2) a d).getD default)) = true then A else Ctl.next (IntKind.i64.wrap ((i : Int) + 1), N.1, N.2.1, N.2.2.1, N.2.2.2.1, N.2.2.2.2.1, N.2.2.2.2.2.1, N.2.2.2.2.2.2)) else .out none) = .next ((i : Int) + 1, N) := fun A => by
                rw [p29, inR_iff.2 qhd, wS i (by omega)]
                exact (if_pos (fun _ => rfl)).trans (if_neg (by decide))
              by_cases hh : heatAt H (l.getD i default) = none
              · obtain ⟨g1, g2, g3, g4, g5⟩ := n3 hh
                have hnot : ¬ (0 < H.length ∧ (H.getD 0 default).1 ≤ l.getD i default) := fun h => (hot_iff ok _).2 h hh
                refine (if_neg (by simp only [Bool.and_eq_true, decide_eq_true_eq, ge_iff_le]; intro h; exact hnot ⟨by omega, h.2⟩)).trans ((if_neg (by simp only [Bool.or_eq_true, decide_eq_true_eq, bne_iff_ne]; show ¬ ((((N.1 ≠ p ∨ N.2.2.2.1 < m) ∨ N.2.2.1 < e) ∨ N.2.2.2.2.2.1 ≠ g) ∨ N.2.2.2.2.2.2 < t); omega)).trans ?_)
                show bindC (r31 H C Q T a b c d N.1 N.2.1 N.2.2.1 N.2.2.2.1 N.2.2.2.2.1 N.2.2.2.2.2.1 N.2.2.2.2.2.2) _ = _
                rw [q31]
                exact fin _
              · obtain ⟨g1, g2, g3, g4⟩ := n2 hh
                have hyes := (hot_iff ok _).1 hh
                refine (if_pos (by simp only [Bool.and_eq_true, decide_eq_true_eq, ge_iff_le]; exact ⟨by omega, hyes.2⟩)).trans ((if_neg (by simp only [Bool.or_eq_true, decide_eq_true_eq, bne_iff_ne]; show ¬ (((N.2.1 < s ∨ N.2.2.1 ≠ 0) ∨ N.2.2.2.1 ≠ 0) ∨ N.2.2.2.2.2.1 < g); omega)).trans ?_)
                show bindC (r31 H C Q T a b c d N.1 N.2.1 N.2.2.1 N.2.2.2.1 N.2.2.2.2.1 N.2.2.2.2.2.1 N.2.2.2.2.2.2) _ = _
                rw [q31]
                exact fin _
            · exact if_pos (by simp [hpk])
          · exact if_pos (by simp [hc])
        · exact if_pos (by simp [hs])
      · exact if_pos (by simp [h0])
  · have hf2 : (decide (H.length ≤ 10 ∧ C.length ≤ 10 ∧ Q.length ≤ 10 ∧ T.length ≤ 10)) = false := decide_eq_false hf
    simp only [hf2, Bool.not_false, Bool.true_or, Bool.not_true]
    refine (if_pos (fun h => by cases h)).trans ((if_pos (fun h => by cases h)).trans ((if_pos (fun h => by cases h)).trans ((if_pos (fun h => by cases h)).trans (if_pos trivial))))
end Go.Proofs.YtfkmbdfajpdjjaaDoor

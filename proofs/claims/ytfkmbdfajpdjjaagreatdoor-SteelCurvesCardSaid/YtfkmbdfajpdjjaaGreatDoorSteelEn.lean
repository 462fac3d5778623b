/- SteelEnclosed as a plain law. -/
import Derived.Test.YtfkmbdfajpdjjaaGreatDoorF03
import Derived.Test.YtfkmbdfajpdjjaaGreatDoorF04
import Derived.Test.YtfkmbdfajpdjjaaGreatDoorF06
import Derived.Test.YtfkmbdfajpdjjaaGreatDoorF07
import Derived.Test.YtfkmbdfajpdjjaaGreatDoorF08
import Derived.Test.YtfkmbdfajpdjjaaGreatDoorSteelBp
set_option linter.unusedVariables false
set_option linter.unusedSimpArgs false
namespace Go.Proofs.YtfkmbdfajpdjjaaGreatDoor
open Go.Abs

/-- the error of a range of temperatures, of several -/
def rangE (lo hi : Int) : Int := if (inR lo 1 3000 && inR hi 1 3000) = true then (if lo ≤ hi then (if hi - lo ≤ 50 then 0 else 8) else 9) else 2
def rangsE (l : List (Int × Int)) : Int := if 200 < l.length then 8 else firstV (l.map fun x => rangE x.1 x.2)
theorem p100 (lo hi : Int) : r35 lo hi = some (rangE lo hi) := by
  unfold r35 rangE
  simp only [p87, Option.bind_some, Option.isSome_some, implies_true, if_true, Option.getD_some]
  by_cases h1 : inR lo 1 3000 = true
  · by_cases h2 : inR hi 1 3000 = true
    · have g1 := inR_iff.1 h1
      have g2 := inR_iff.1 h2
      rw [wI (a := hi - lo) (by omega) (by omega)]
      refine (if_neg (by simp [h1, h2])).trans ?_
      rw [h1, h2]
      by_cases h3 : lo ≤ hi
      · refine (if_neg (by simp; omega)).trans ?_
        by_cases h4 : hi - lo ≤ 50
        · refine (if_neg (by simp; omega)).trans ?_
          simp [h3, h4]
        · refine (if_pos (by simp; omega)).trans ?_
          simp [h3, h4]
      · refine (if_pos (by simp; omega)).trans ?_
        simp [h3]
    · refine (if_pos (by simp [h2])).trans ?_
      simp [h2]
  · refine (if_pos (by simp [h1])).trans ?_
    simp [h1]
theorem rangE_ok {lo hi : Int} (h : rangE lo hi = 0) : 1 ≤ lo ∧ lo ≤ hi ∧ hi ≤ 3000 ∧ hi - lo ≤ 50 := by
  unfold rangE at h
  split at h
  · rename_i h1
    rw [Bool.and_eq_true, inR_iff, inR_iff] at h1
    split at h
    · split at h
      · omega
      · exact absurd h (by decide)
    · exact absurd h (by decide)
  · exact absurd h (by decide)
theorem p52 (l : List (Int × Int)) (hl : l.length < 1000000000) : r37 l = some (rangsE l) := by
  unfold r37 rangsE
  by_cases h : 200 < l.length
  · rw [if_pos h]; exact if_pos (by simp; omega)
  · rw [if_neg h]
    refine (if_neg (by simp; omega)).trans ?_
    have h := iter_list (τ := Unit) l (b37_1 l) (fun i _ => i) (fun _ _ x => if rangE x.1 x.2 = 0 then .next () else .out (some (rangE x.1 x.2))) (fun _ => some 0) hl
      (fun i t hi => by
        refine (if_pos (ltN hi)).trans ((if_pos (rgN hi)).trans ?_)
        rw [p100, wS i (by omega), Int.toNat_natCast]
        show (if (rangE (l.getD i default).1 (l.getD i default).2 != 0) = true then _ else _) = _
        generalize rangE (l.getD i default).1 (l.getD i default).2 = z
        by_cases hz : z = 0
        · simp only [hz, if_true, mapC]; rfl
        · simp only [if_neg hz, mapC]; exact if_pos (by simpa using hz))
      (fun t => if_neg (by simp)) ()
    rw [h]
    have key : ∀ (r : List (Int × Int)) (i : Int), foldC (fun _ _ x => if rangE x.1 x.2 = 0 then Ctl.next () else .out (some (rangE x.1 x.2))) (fun _ : Unit => some 0) i r () = some (firstV (r.map fun x => rangE x.1 x.2)) := by
      intro r
      induction r with
      | nil => intro i; rfl
      | cons x r ih =>
        intro i
        by_cases hx : rangE x.1 x.2 = 0
        · simp only [foldC, hx, if_true, List.map_cons, firstV]; exact ih _
        · simp only [foldC, if_neg hx, List.map_cons, firstV]
    exact key l 0
theorem rangsE_ok {l : List (Int × Int)} (h : rangsE l = 0) : l.length ≤ 200 ∧ ∀ x ∈ l, rangE x.1 x.2 = 0 := by
  unfold rangsE at h
  split at h
  · exact absurd h (by decide)
  · exact ⟨by omega, fun x hx => fz h _ (List.mem_map.2 ⟨x, hx, rfl⟩)⟩
theorem p103 (lo hi : Int) : r63 lo hi = some (rangE lo hi) := by
  unfold r63 rangE
  simp only [p84, Option.bind_some, p68, p67 _ (show ([codeIf (inR lo 1 3000) 2, codeIf (inR hi 1 3000) 2, codeIf (decide (lo ≤ hi)) 9] : List Int).length < 1000000000 by simp)]
  unfold codeIf
  by_cases h1 : inR lo 1 3000 = true
  · by_cases h2 : inR hi 1 3000 = true
    · have g1 := inR_iff.1 h1
      have g2 := inR_iff.1 h2
      rw [wI (a := hi - lo) (by omega) (by omega), h1, h2]
      by_cases h3 : lo ≤ hi
      · by_cases h4 : hi - lo ≤ 50 <;> simp [h3, h4, firstV]
      · simp [h3, firstV]
    · simp [h1, h2, firstV]
  · simp [h1, firstV]
def pointB (p s e m w g t : Int) : BxV := ⟨p, p, s, s, e, e, m, m, w, w, g, g, t, t⟩
theorem p53 {p s e m w g t : Int} (st : StOk p s e m w g t) : r27 p s e m w g t = some (p, p, s, s, e, e, m, m, w, w, g, g, t, t, 0) := by
  unfold r27
  rw [p17, Option.bind_some, staE_of st]
  refine (if_neg (by decide)).trans ?_
  rfl
theorem point_bi {p s e m w g t : Int} (st : StOk p s e m w g t) : BI (pointB p s e m w g t) ∧ InB (pointB p s e m w g t) p s e m w g t := by
  have h : InB (pointB p s e m w g t) p s e m w g t := by constructor <;> dsimp only [pointB] <;> omega
  refine ⟨⟨?_, p, s, e, m, w, g, t, st, h⟩, h⟩
  obtain ⟨sp, sa, sb, sm, sw, sg, stt, ssum⟩ := st
  constructor <;> dsimp only [pointB] <;> omega
theorem w2 {dlo dhi left h S : Int} (h1 : 0 ≤ dlo) (h2 : dlo ≤ dhi) (h3 : dhi ≤ 1000000) (h4 : 0 ≤ left) (h5 : left ≤ 1000000) (h6 : 0 ≤ h) (h7 : h ≤ 2000) (h8 : 0 ≤ S) (h9 : S ≤ 20000000000) :
    IntKind.i64.wrap (left - (if IntKind.i64.wrap (dhi - dlo) < left then IntKind.i64.wrap (dhi - dlo) else left)) = left - capV (dhi - dlo) left ∧
    IntKind.i64.wrap (S + IntKind.i64.wrap ((if IntKind.i64.wrap (dhi - dlo) < left then IntKind.i64.wrap (dhi - dlo) else left) * h)) = S + capV (dhi - dlo) left * h ∧
    (0 ≤ left - capV (dhi - dlo) left ∧ left - capV (dhi - dlo) left ≤ 1000000) ∧ 0 ≤ capV (dhi - dlo) left * h ∧ capV (dhi - dlo) left * h ≤ 2000000000 := by
  rw [wI (a := dhi - dlo) (by omega) (by omega)]
  show IntKind.i64.wrap (left - capV (dhi - dlo) left) = left - capV (dhi - dlo) left ∧ IntKind.i64.wrap (S + IntKind.i64.wrap (capV (dhi - dlo) left * h)) = S + capV (dhi - dlo) left * h ∧ _
  have hc : 0 ≤ capV (dhi - dlo) left ∧ capV (dhi - dlo) left ≤ left := by unfold capV; omega
  have hm := mul_b hc.1 (show capV (dhi - dlo) left ≤ 1000000 by omega) h6 h7
  rw [wI (a := left - capV (dhi - dlo) left) (by omega) (by omega), wI (a := capV (dhi - dlo) left * h) (by omega) (by omega), wI (a := S + capV (dhi - dlo) left * h) (by omega) (by omega)]
  exact ⟨rfl, rfl, ⟨by omega, by omega⟩, hm.1, by omega⟩
theorem it4 {σ ρ : Type} {B : σ → Ctl σ ρ} {s0 s1 s2 s3 s4 : σ} {r : Option ρ} (h0 : B s0 = .next s1) (h1 : B s1 = .next s2) (h2 : B s2 = .next s3) (h3 : B s3 = .next s4) (h4 : B s4 = .out r) : iterC B 1000000000 s0 = r := by
  have key : ∀ n : Nat, iterC B (n + 5) s0 = r := fun n => by simp only [iterC, h0, h1, h2, h3, h4]
  exact key 999999995
section
variable {x : BxV} {h0 h1 h2 h3 : Int}
theorem fill1 (hx : BI x) (b0 : 0 ≤ h0 ∧ h0 ≤ 2000) (b1 : 0 ≤ h1 ∧ h1 ≤ 2000) (b2 : 0 ≤ h2 ∧ h2 ≤ 2000) (b3 : 0 ≤ h3 ∧ h3 ≤ 2000) (o0 o1 o2 o3 : Int) :
    r95 x.pl x.ph x.al x.ah x.bl x.bh x.ml x.mh h0 h1 h2 h3 o0 o1 o2 o3 = iterC (b95_2 x.pl x.ph x.al x.ah x.bl x.bh x.ml x.mh h0 h1 h2 h3) 1000000000 (1000000 - x.pl - x.al - x.bl - x.ml, x.pl * h0 + x.al * h1 + x.bl * h2 + x.ml * h3, o0, o1, o2, o3, 0) ∧
      (0 ≤ x.pl * h0 + x.al * h1 + x.bl * h2 + x.ml * h3 ∧ x.pl * h0 + x.al * h1 + x.bl * h2 + x.ml * h3 ≤ 8000000000) ∧ 0 ≤ 1000000 - x.pl - x.al - x.bl - x.ml ∧ 1000000 - x.pl - x.al - x.bl - x.ml ≤ 1000000 := by
  obtain ⟨⟨rp, rs, re, rm, rw_, rg, rt⟩, p, s, e, m, w, g, t, ⟨sp, sa, sb, sm, sw, sg, stt, ssum⟩, ⟨ip, is, ie, im, iw, ig, it⟩⟩ := hx
  have m0 := mul_b (x := x.pl) rp.1 (show x.pl ≤ 1000000 by omega) b0.1 b0.2
  have m1 := mul_b (x := x.al) rs.1 (show x.al ≤ 1000000 by omega) b1.1 b1.2
  have m2 := mul_b (x := x.bl) re.1 (show x.bl ≤ 1000000 by omega) b2.1 b2.2
  have m3 := mul_b (x := x.ml) rm.1 (show x.ml ≤ 1000000 by omega) b3.1 b3.2
  refine ⟨?_, ⟨by omega, by omega⟩, by omega, by omega⟩
  unfold r95
  have e0 : b95_1 x.pl x.ph x.al x.ah x.bl x.bh x.ml x.mh h0 h1 h2 h3 o0 o1 o2 o3 (1000000, 0, 0) = .next (1000000 - x.pl, x.pl * h0, 1) := by
    show Ctl.next (IntKind.i64.wrap (1000000 - x.pl), IntKind.i64.wrap (0 + IntKind.i64.wrap (x.pl * h0)), IntKind.i64.wrap (0 + 1)) = _
    rw [wI (a := 1000000 - x.pl) (by omega) (by omega), wI (a := x.pl * h0) (by omega) (by omega), wI (a := 0 + x.pl * h0) (by omega) (by omega), Int.zero_add, show IntKind.i64.wrap (0 + 1) = 1 by decide]
  have e1 : b95_1 x.pl x.ph x.al x.ah x.bl x.bh x.ml x.mh h0 h1 h2 h3 o0 o1 o2 o3 (1000000 - x.pl, x.pl * h0, 1) = .next (1000000 - x.pl - x.al, x.pl * h0 + x.al * h1, 2) := by
    show Ctl.next (IntKind.i64.wrap (1000000 - x.pl - x.al), IntKind.i64.wrap (x.pl * h0 + IntKind.i64.wrap (x.al * h1)), IntKind.i64.wrap (1 + 1)) = _
    rw [wI (a := 1000000 - x.pl - x.al) (by omega) (by omega), wI (a := x.al * h1) (by omega) (by omega), wI (a := x.pl * h0 + x.al * h1) (by omega) (by omega), show IntKind.i64.wrap (1 + 1) = 2 by decide]
  have e2 : b95_1 x.pl x.ph x.al x.ah x.bl x.bh x.ml x.mh h0 h1 h2 h3 o0 o1 o2 o3 (1000000 - x.pl - x.al, x.pl * h0 + x.al * h1, 2) = .next (1000000 - x.pl - x.al - x.bl, x.pl * h0 + x.al * h1 + x.bl * h2, 3) := by
    show Ctl.next (IntKind.i64.wrap (1000000 - x.pl - x.al - x.bl), IntKind.i64.wrap (x.pl * h0 + x.al * h1 + IntKind.i64.wrap (x.bl * h2)), IntKind.i64.wrap (2 + 1)) = _
    rw [wI (a := 1000000 - x.pl - x.al - x.bl) (by omega) (by omega), wI (a := x.bl * h2) (by omega) (by omega), wI (a := x.pl * h0 + x.al * h1 + x.bl * h2) (by omega) (by omega), show IntKind.i64.wrap (2 + 1) = 3 by decide]
  have e3 : b95_1 x.pl x.ph x.al x.ah x.bl x.bh x.ml x.mh h0 h1 h2 h3 o0 o1 o2 o3 (1000000 - x.pl - x.al - x.bl, x.pl * h0 + x.al * h1 + x.bl * h2, 3) = .next (1000000 - x.pl - x.al - x.bl - x.ml, x.pl * h0 + x.al * h1 + x.bl * h2 + x.ml * h3, 4) := by
    show Ctl.next (IntKind.i64.wrap (1000000 - x.pl - x.al - x.bl - x.ml), IntKind.i64.wrap (x.pl * h0 + x.al * h1 + x.bl * h2 + IntKind.i64.wrap (x.ml * h3)), IntKind.i64.wrap (3 + 1)) = _
    rw [wI (a := 1000000 - x.pl - x.al - x.bl - x.ml) (by omega) (by omega), wI (a := x.ml * h3) (by omega) (by omega), wI (a := x.pl * h0 + x.al * h1 + x.bl * h2 + x.ml * h3) (by omega) (by omega), show IntKind.i64.wrap (3 + 1) = 4 by decide]
  exact it4 e0 e1 e2 e3 rfl
theorem soft (hx : BI x) (b0 : 0 ≤ h0 ∧ h0 ≤ 2000) (b1 : 0 ≤ h1 ∧ h1 ≤ 2000) (b2 : 0 ≤ h2 ∧ h2 ≤ 2000) (b3 : 0 ≤ h3 ∧ h3 ≤ 2000) :
    r95 x.pl x.ph x.al x.ah x.bl x.bh x.ml x.mh h0 h1 h2 h3 0 1 2 3 = some ((fillV (1000000 - x.pl - x.al - x.bl - x.ml) (x.ph - x.pl) (x.ah - x.al) (x.bh - x.bl) (x.mh - x.ml) h0 h1 h2 h3 (x.pl * h0 + x.al * h1 + x.bl * h2 + x.ml * h3)).tdiv 1000000) := by
  obtain ⟨q, hS, hL⟩ := fill1 hx b0 b1 b2 b3 0 1 2 3
  rw [q]
  obtain ⟨⟨rp, rs, re, rm, rw_, rg, rt⟩, p, s, e, m, w, g, t, -, ⟨ip, is, ie, im, iw, ig, it⟩⟩ := hx
  unfold fillV
  generalize x.pl * h0 + x.al * h1 + x.bl * h2 + x.ml * h3 = S at hS
  generalize 1000000 - x.pl - x.al - x.bl - x.ml = L at hL
  have k0 := w2 (dlo := x.pl) (dhi := x.ph) (left := L) (h := h0) (S := S) rp.1 (by omega) rp.2 hL.1 hL.2 b0.1 b0.2 (by omega) (by omega)
  have k1 := w2 (dlo := x.al) (dhi := x.ah) (left := L - capV (x.ph - x.pl) L) (h := h1) (S := S + capV (x.ph - x.pl) L * h0) rs.1 (by omega) rs.2 (by omega) (by omega) b1.1 b1.2 (by omega) (by omega)
  have k2 := w2 (dlo := x.bl) (dhi := x.bh) (left := L - capV (x.ph - x.pl) L - capV (x.ah - x.al) (L - capV (x.ph - x.pl) L)) (h := h2) (S := S + capV (x.ph - x.pl) L * h0 + capV (x.ah - x.al) (L - capV (x.ph - x.pl) L) * h1) re.1 (by omega) re.2 (by omega) (by omega) b2.1 b2.2 (by omega) (by omega)
  have k3 := w2 (dlo := x.ml) (dhi := x.mh) (left := L - capV (x.ph - x.pl) L - capV (x.ah - x.al) (L - capV (x.ph - x.pl) L) - capV (x.bh - x.bl) (L - capV (x.ph - x.pl) L - capV (x.ah - x.al) (L - capV (x.ph - x.pl) L))) (h := h3) (S := S + capV (x.ph - x.pl) L * h0 + capV (x.ah - x.al) (L - capV (x.ph - x.pl) L) * h1 + capV (x.bh - x.bl) (L - capV (x.ph - x.pl) L - capV (x.ah - x.al) (L - capV (x.ph - x.pl) L)) * h2) rm.1 (by omega) rm.2 (by omega) (by omega) b3.1 b3.2 (by omega) (by omega)
  generalize capV (x.ph - x.pl) L = a0 at k0 k1 k2 k3
  generalize capV (x.ah - x.al) (L - a0) = a1 at k1 k2 k3
  generalize capV (x.bh - x.bl) (L - a0 - a1) = a2 at k2 k3
  generalize capV (x.mh - x.ml) (L - a0 - a1 - a2) = a3 at k3
  refine it4 (s1 := (L - a0, S + a0 * h0, 0, 1, 2, 3, 1)) (s2 := (L - a0 - a1, S + a0 * h0 + a1 * h1, 0, 1, 2, 3, 2)) (s3 := (L - a0 - a1 - a2, S + a0 * h0 + a1 * h1 + a2 * h2, 0, 1, 2, 3, 3)) (s4 := (L - a0 - a1 - a2 - a3, S + a0 * h0 + a1 * h1 + a2 * h2 + a3 * h3, 0, 1, 2, 3, 4)) ?_ ?_ ?_ ?_ ?_
  · show Ctl.next (IntKind.i64.wrap (L - (if IntKind.i64.wrap (x.ph - x.pl) < L then IntKind.i64.wrap (x.ph - x.pl) else L)), IntKind.i64.wrap (S + IntKind.i64.wrap ((if IntKind.i64.wrap (x.ph - x.pl) < L then IntKind.i64.wrap (x.ph - x.pl) else L) * h0)), 0, 1, 2, 3, IntKind.i64.wrap (0 + 1)) = _
    rw [k0.1, k0.2.1, show IntKind.i64.wrap (0 + 1) = 1 by decide]
  · show Ctl.next (IntKind.i64.wrap ((L - a0) - (if IntKind.i64.wrap (x.ah - x.al) < L - a0 then IntKind.i64.wrap (x.ah - x.al) else L - a0)), IntKind.i64.wrap (S + a0 * h0 + IntKind.i64.wrap ((if IntKind.i64.wrap (x.ah - x.al) < L - a0 then IntKind.i64.wrap (x.ah - x.al) else L - a0) * h1)), 0, 1, 2, 3, IntKind.i64.wrap (1 + 1)) = _
    rw [k1.1, k1.2.1, show IntKind.i64.wrap (1 + 1) = 2 by decide]
  · show Ctl.next (IntKind.i64.wrap ((L - a0 - a1) - (if IntKind.i64.wrap (x.bh - x.bl) < L - a0 - a1 then IntKind.i64.wrap (x.bh - x.bl) else L - a0 - a1)), IntKind.i64.wrap (S + a0 * h0 + a1 * h1 + IntKind.i64.wrap ((if IntKind.i64.wrap (x.bh - x.bl) < L - a0 - a1 then IntKind.i64.wrap (x.bh - x.bl) else L - a0 - a1) * h2)), 0, 1, 2, 3, IntKind.i64.wrap (2 + 1)) = _
    rw [k2.1, k2.2.1, show IntKind.i64.wrap (2 + 1) = 3 by decide]
  · show Ctl.next (IntKind.i64.wrap ((L - a0 - a1 - a2) - (if IntKind.i64.wrap (x.mh - x.ml) < L - a0 - a1 - a2 then IntKind.i64.wrap (x.mh - x.ml) else L - a0 - a1 - a2)), IntKind.i64.wrap (S + a0 * h0 + a1 * h1 + a2 * h2 + IntKind.i64.wrap ((if IntKind.i64.wrap (x.mh - x.ml) < L - a0 - a1 - a2 then IntKind.i64.wrap (x.mh - x.ml) else L - a0 - a1 - a2) * h3)), 0, 1, 2, 3, IntKind.i64.wrap (3 + 1)) = _
    rw [k3.1, k3.2.1, show IntKind.i64.wrap (3 + 1) = 4 by decide]
  · show Ctl.out (some (IntKind.i64.wrap ((S + a0 * h0 + a1 * h1 + a2 * h2 + a3 * h3).tdiv 1000000))) = _
    have : 0 ≤ (S + a0 * h0 + a1 * h1 + a2 * h2 + a3 * h3).tdiv 1000000 ∧ (S + a0 * h0 + a1 * h1 + a2 * h2 + a3 * h3).tdiv 1000000 ≤ 10000000000 := by
      rw [Int.tdiv_eq_ediv_of_nonneg (by omega)]; omega
    rw [wI (by omega) (by omega)]
theorem hardest (hx : BI x) (b0 : 0 ≤ h0 ∧ h0 ≤ 2000) (b1 : 0 ≤ h1 ∧ h1 ≤ 2000) (b2 : 0 ≤ h2 ∧ h2 ≤ 2000) (b3 : 0 ≤ h3 ∧ h3 ≤ 2000) :
    r95 x.pl x.ph x.al x.ah x.bl x.bh x.ml x.mh h0 h1 h2 h3 3 2 1 0 = some ((fillV (1000000 - x.pl - x.al - x.bl - x.ml) (x.mh - x.ml) (x.bh - x.bl) (x.ah - x.al) (x.ph - x.pl) h3 h2 h1 h0 (x.pl * h0 + x.al * h1 + x.bl * h2 + x.ml * h3)).tdiv 1000000) := by
  obtain ⟨q, hS, hL⟩ := fill1 hx b0 b1 b2 b3 3 2 1 0
  rw [q]
  obtain ⟨⟨rp, rs, re, rm, rw_, rg, rt⟩, p, s, e, m, w, g, t, -, ⟨ip, is, ie, im, iw, ig, it⟩⟩ := hx
  unfold fillV
  generalize x.pl * h0 + x.al * h1 + x.bl * h2 + x.ml * h3 = S at hS
  generalize 1000000 - x.pl - x.al - x.bl - x.ml = L at hL
  have k0 := w2 (dlo := x.ml) (dhi := x.mh) (left := L) (h := h3) (S := S) rm.1 (by omega) rm.2 hL.1 hL.2 b3.1 b3.2 (by omega) (by omega)
  have k1 := w2 (dlo := x.bl) (dhi := x.bh) (left := L - capV (x.mh - x.ml) L) (h := h2) (S := S + capV (x.mh - x.ml) L * h3) re.1 (by omega) re.2 (by omega) (by omega) b2.1 b2.2 (by omega) (by omega)
  have k2 := w2 (dlo := x.al) (dhi := x.ah) (left := L - capV (x.mh - x.ml) L - capV (x.bh - x.bl) (L - capV (x.mh - x.ml) L)) (h := h1) (S := S + capV (x.mh - x.ml) L * h3 + capV (x.bh - x.bl) (L - capV (x.mh - x.ml) L) * h2) rs.1 (by omega) rs.2 (by omega) (by omega) b1.1 b1.2 (by omega) (by omega)
  have k3 := w2 (dlo := x.pl) (dhi := x.ph) (left := L - capV (x.mh - x.ml) L - capV (x.bh - x.bl) (L - capV (x.mh - x.ml) L) - capV (x.ah - x.al) (L - capV (x.mh - x.ml) L - capV (x.bh - x.bl) (L - capV (x.mh - x.ml) L))) (h := h0) (S := S + capV (x.mh - x.ml) L * h3 + capV (x.bh - x.bl) (L - capV (x.mh - x.ml) L) * h2 + capV (x.ah - x.al) (L - capV (x.mh - x.ml) L - capV (x.bh - x.bl) (L - capV (x.mh - x.ml) L)) * h1) rp.1 (by omega) rp.2 (by omega) (by omega) b0.1 b0.2 (by omega) (by omega)
  generalize capV (x.mh - x.ml) L = a0 at k0 k1 k2 k3
  generalize capV (x.bh - x.bl) (L - a0) = a1 at k1 k2 k3
  generalize capV (x.ah - x.al) (L - a0 - a1) = a2 at k2 k3
  generalize capV (x.ph - x.pl) (L - a0 - a1 - a2) = a3 at k3
  refine it4 (s1 := (L - a0, S + a0 * h3, 3, 2, 1, 0, 1)) (s2 := (L - a0 - a1, S + a0 * h3 + a1 * h2, 3, 2, 1, 0, 2)) (s3 := (L - a0 - a1 - a2, S + a0 * h3 + a1 * h2 + a2 * h1, 3, 2, 1, 0, 3)) (s4 := (L - a0 - a1 - a2 - a3, S + a0 * h3 + a1 * h2 + a2 * h1 + a3 * h0, 3, 2, 1, 0, 4)) ?_ ?_ ?_ ?_ ?_
  · show Ctl.next (IntKind.i64.wrap (L - (if IntKind.i64.wrap (x.mh - x.ml) < L then IntKind.i64.wrap (x.mh - x.ml) else L)), IntKind.i64.wrap (S + IntKind.i64.wrap ((if IntKind.i64.wrap (x.mh - x.ml) < L then IntKind.i64.wrap (x.mh - x.ml) else L) * h3)), 3, 2, 1, 0, IntKind.i64.wrap (0 + 1)) = _
    rw [k0.1, k0.2.1, show IntKind.i64.wrap (0 + 1) = 1 by decide]
  · show Ctl.next (IntKind.i64.wrap ((L - a0) - (if IntKind.i64.wrap (x.bh - x.bl) < L - a0 then IntKind.i64.wrap (x.bh - x.bl) else L - a0)), IntKind.i64.wrap (S + a0 * h3 + IntKind.i64.wrap ((if IntKind.i64.wrap (x.bh - x.bl) < L - a0 then IntKind.i64.wrap (x.bh - x.bl) else L - a0) * h2)), 3, 2, 1, 0, IntKind.i64.wrap (1 + 1)) = _
    rw [k1.1, k1.2.1, show IntKind.i64.wrap (1 + 1) = 2 by decide]
  · show Ctl.next (IntKind.i64.wrap ((L - a0 - a1) - (if IntKind.i64.wrap (x.ah - x.al) < L - a0 - a1 then IntKind.i64.wrap (x.ah - x.al) else L - a0 - a1)), IntKind.i64.wrap (S + a0 * h3 + a1 * h2 + IntKind.i64.wrap ((if IntKind.i64.wrap (x.ah - x.al) < L - a0 - a1 then IntKind.i64.wrap (x.ah - x.al) else L - a0 - a1) * h1)), 3, 2, 1, 0, IntKind.i64.wrap (2 + 1)) = _
    rw [k2.1, k2.2.1, show IntKind.i64.wrap (2 + 1) = 3 by decide]
  · show Ctl.next (IntKind.i64.wrap ((L - a0 - a1 - a2) - (if IntKind.i64.wrap (x.ph - x.pl) < L - a0 - a1 - a2 then IntKind.i64.wrap (x.ph - x.pl) else L - a0 - a1 - a2)), IntKind.i64.wrap (S + a0 * h3 + a1 * h2 + a2 * h1 + IntKind.i64.wrap ((if IntKind.i64.wrap (x.ph - x.pl) < L - a0 - a1 - a2 then IntKind.i64.wrap (x.ph - x.pl) else L - a0 - a1 - a2) * h0)), 3, 2, 1, 0, IntKind.i64.wrap (3 + 1)) = _
    rw [k3.1, k3.2.1, show IntKind.i64.wrap (3 + 1) = 4 by decide]
  · show Ctl.out (some (IntKind.i64.wrap ((S + a0 * h3 + a1 * h2 + a2 * h1 + a3 * h0).tdiv 1000000))) = _
    have : 0 ≤ (S + a0 * h3 + a1 * h2 + a2 * h1 + a3 * h0).tdiv 1000000 ∧ (S + a0 * h3 + a1 * h2 + a2 * h1 + a3 * h0).tdiv 1000000 ≤ 10000000000 := by
      rw [Int.tdiv_eq_ediv_of_nonneg (by omega)]; omega
    rw [wI (by omega) (by omega)]
end
/-- the band of a box -/
def bandLo (a b c d : Int) (x : BxV) : Int := (fillV (1000000 - x.pl - x.al - x.bl - x.ml) (x.ph - x.pl) (x.ah - x.al) (x.bh - x.bl) (x.mh - x.ml) a b c (mHard c d x.th) (x.pl * a + x.al * b + x.bl * c + x.ml * mHard c d x.th)).tdiv 1000000
def bandHi (a b c d : Int) (x : BxV) : Int := (fillV (1000000 - x.pl - x.al - x.bl - x.ml) (x.mh - x.ml) (x.bh - x.bl) (x.ah - x.al) (x.ph - x.pl) (mHard c d x.tl) c b a (x.pl * a + x.al * b + x.bl * c + x.ml * mHard c d x.tl)).tdiv 1000000
section
variable {H : List (Int × Int × Int × Int)} {C : List (Int × Int × Int × Int × Int)} {Q : List (Int × Int × Int)} {T : List (Int × Int)} {a b c d : Int}
theorem p86 (ok : RulOk H C Q T a b c d) {t : Int} (h1 : 0 ≤ t) (h2 : t ≤ 1000000) : r74 H C Q T a b c d t = some (a, b, c, mHard c d t) := by
  have q1 := ok.ha; have q2 := ok.hab; have q3 := ok.hbc; have q4 := ok.hcd; have q5 := ok.hd
  unfold r74
  rw [wI (a := d - t) (by omega) (by omega)]; rfl
theorem p105 (ok : RulOk H C Q T a b c d) {x : BxV} (hx : BI x) : r53 H C Q T a b c d x.pl x.ph x.al x.ah x.bl x.bh x.ml x.mh x.wl x.wh x.gl x.gh x.tl x.th = some (bandLo a b c d x, bandHi a b c d x) := by
  have q1 := ok.ha; have q2 := ok.hab; have q3 := ok.hbc; have q4 := ok.hcd; have q5 := ok.hd
  have hx2 := hx
  obtain ⟨⟨rp, rs, re, rm, rw_, rg, rt⟩, p, s, e, m, w, g, t, -, ⟨ip, is, ie, im, iw, ig, it⟩⟩ := hx2
  have hM := mHard_b ok (t := x.th) (by omega)
  have hN := mHard_b ok (t := x.tl) (by omega)
  unfold r53 r67
  rw [Option.bind_some, p86 ok (t := x.th) (by omega) rt.2, Option.bind_some]
  show (r95 x.pl x.ph x.al x.ah x.bl x.bh x.ml x.mh a b c (mHard c d x.th) 0 1 2 3).bind _ = _
  rw [soft hx ⟨by omega, by omega⟩ ⟨by omega, by omega⟩ ⟨by omega, by omega⟩ ⟨by omega, by omega⟩, Option.bind_some, p86 ok (t := x.tl) rt.1 (by omega), Option.bind_some]
  show (r95 x.pl x.ph x.al x.ah x.bl x.bh x.ml x.mh a b c (mHard c d x.tl) 3 2 1 0).bind _ = _
  rw [hardest hx ⟨by omega, by omega⟩ ⟨by omega, by omega⟩ ⟨by omega, by omega⟩ ⟨by omega, by omega⟩, Option.bind_some]
  rfl
theorem p58 (ok : RulOk H C Q T a b c d) {v : Int × Int} (hv : rulV H C Q T a b c d = some v) (h0 : v.2 = 0) {x : BxV} (hx : BI x) :
    r32 H C Q T a b c d x.pl x.ph x.al x.ah x.bl x.bh x.ml x.mh x.wl x.wh x.gl x.gh x.tl x.th = some (bandLo a b c d x, bandHi a b c d x, 0) := by
  have l1 := ok.lH; have l2 := ok.lC; have l3 := ok.lQ; have l4 := ok.lT
  unfold r32
  rw [p73 ⟨by omega, by omega, by omega, by omega⟩ hv, Option.bind_some, p102, Option.bind_some, boxE_of hx, h0, p67 _ (by simp), Option.bind_some]
  refine (if_neg (by decide)).trans ?_
  rw [p105 ok hx]; rfl
theorem p55 (ok : RulOk H C Q T a b c d) {v : Int × Int} (hv : rulV H C Q T a b c d = some v) (h0 : v.2 = 0) {x : BxV} (hx : BI x) {lo hi : Int} (hr : rangE lo hi = 0) {y : BxV} (hy : rangeV H C Q T lo hi x = y) :
    r29 H C Q T a b c d x.pl x.ph x.al x.ah x.bl x.bh x.ml x.mh x.wl x.wh x.gl x.gh x.tl x.th lo hi = some (y.pl, y.ph, y.al, y.ah, y.bl, y.bh, y.ml, y.mh, y.wl, y.wh, y.gl, y.gh, y.tl, y.th, 0) := by
  have l1 := ok.lH; have l2 := ok.lC; have l3 := ok.lQ; have l4 := ok.lT
  have hr2 := rangE_ok hr
  unfold r29
  rw [p73 ⟨by omega, by omega, by omega, by omega⟩ hv, Option.bind_some, p102, Option.bind_some, boxE_of hx, p103, Option.bind_some, hr, h0, p67 _ (by simp), Option.bind_some]
  refine (if_neg (by decide)).trans ?_
  rw [p104 ok.toKnOk hx hr2.1 hr2.2.1 hr2.2.2.1, hy]; rfl
end
end Go.Proofs.YtfkmbdfajpdjjaaGreatDoor

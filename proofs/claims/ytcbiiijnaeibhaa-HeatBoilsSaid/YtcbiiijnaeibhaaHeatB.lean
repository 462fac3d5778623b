import Derived.Test.YtcbiiijnaeibhaaHeatW
import Derived.Test.YtcbiiijnaeibhaaF09
set_option linter.unusedVariables false
set_option linter.unusedSimpArgs false
namespace Go.Proofs.Ytcbiiijnaeibhaa
open Go.Abs

/-- one list nowhere greater than another one -/
def leL : List Int → List Int → Prop
  | [], [] => True
  | x :: r, y :: s => x ≤ y ∧ leL r s
  | _, _ => False
/-- numbers from lo to hi -/
def allR (lo hi : Int) : List Int → Prop
  | [] => True
  | x :: r => (lo ≤ x ∧ x ≤ hi) ∧ allR lo hi r
theorem allR_all {lo hi : Int} : ∀ {l : List Int}, allR lo hi l → l.all (fun n => inR n lo hi) = true
  | [], _ => rfl
  | x :: r, h => by simp [inR, h.1.1, h.1.2]; exact fun y hy => by have := allR_all h.2; simp [inR] at this; exact this y hy

theorem heat_in {now f g : Int} (h1 : 0 ≤ now) (h2 : now ≤ 1000000000) (h3 : 0 ≤ f) (h4 : f ≤ 1000) (h5 : 0 ≤ g) (h6 : g ≤ 1000000) :
    IntKind.i64.wrap (now + (g - (IntKind.i64.wrap (now * f)).tdiv 1000)) = now + (g - now * f / 1000) ∧ 0 ≤ now * f ∧ now * f ≤ now * 1000 := by
  have a1 : 0 ≤ now * f := Int.mul_nonneg h1 h3
  have a2 : now * f ≤ now * 1000 := Int.mul_le_mul_of_nonneg_left h4 h1
  have e1 : IntKind.i64.wrap (now * f) = now * f := IntWalk.i64_in _ ⟨by omega, by omega⟩
  rw [e1, Int.tdiv_eq_ediv_of_nonneg a1]
  refine ⟨IntWalk.i64_in _ ⟨by omega, by omega⟩, a1, a2⟩
theorem heat_mono {n1 n2 f1 f2 : Int} (h0 : 0 ≤ n1) (h : n1 ≤ n2) (h1 : 0 ≤ f2) (h2 : f2 ≤ f1) (h3 : f1 ≤ 1000) : n1 - n1 * f1 / 1000 ≤ n2 - n2 * f2 / 1000 := by
  have a1 : n1 * f2 ≤ n1 * f1 := Int.mul_le_mul_of_nonneg_left h2 h0
  have a2 : (n2 - n1) * f2 ≤ (n2 - n1) * 1000 := Int.mul_le_mul_of_nonneg_left (by omega) (by omega)
  have a3 : (n2 - n1) * f2 = n2 * f2 - n1 * f2 := Int.sub_mul _ _ _
  omega
theorem heats_le (g : Int) (h5 : 0 ≤ g) (h6 : g ≤ 1000000) : ∀ (l1 l2 : List Int) (n1 n2 : Int), leL l2 l1 → allR 0 1000 l1 → allR 0 1000 l2 → 0 ≤ n1 → n1 ≤ n2 → n2 + l2.length * 1000000 ≤ 1000000000 → leL (heatsV g n1 l1) (heatsV g n2 l2)
  | [], [], _, _, _, _, _, _, _, _ => trivial
  | [], _ :: _, _, _, h, _, _, _, _, _ => h.elim
  | _ :: _, [], _, _, h, _, _, _, _, _ => h.elim
  | f1 :: l1, f2 :: l2, n1, n2, h, r1, r2, h0, hn, hb => by
    simp only [List.length_cons] at hb
    have hb' : n2 + (l2.length : Int) * 1000000 + 1000000 ≤ 1000000000 := by
      have : ((l2.length + 1 : Nat) : Int) * 1000000 = (l2.length : Int) * 1000000 + 1000000 := by omega
      omega
    obtain ⟨e1, p1, q1⟩ := heat_in (now := n1) (f := f1) (g := g) h0 (by omega) r1.1.1 r1.1.2 h5 h6
    obtain ⟨e2, p2, q2⟩ := heat_in (now := n2) (f := f2) (g := g) (by omega) (by omega) r2.1.1 r2.1.2 h5 h6
    have hm := heat_mono h0 hn r2.1.1 h.1 r1.1.2
    simp only [heatsV, e1, e2]
    refine ⟨by omega, heats_le g h5 h6 l1 l2 _ _ h.2 r1.2 r2.2 (by omega) (by omega) (by omega)⟩

/-- 1 more than the first place from i on where a number is at least c -/
def fge (c N : Int) : Int → List Int → Int
  | _, [] => N
  | i, x :: r => if x ≥ c then i + 1 else fge c N (i + 1) r
theorem boil_fge (c N : Int) : ∀ (l : List Int) (i : Int), 0 ≤ i → (if idxV (fun n => decide (n ≥ c)) i l < 0 then N else idxV (fun n => decide (n ≥ c)) i l + 1) = fge c N i l
  | [], i, _ => by simp [idxV, fge]
  | x :: r, i, h => by
    by_cases hx : x ≥ c
    · have : ¬ i < 0 := by omega
      simp [idxV, fge, hx, this]
    · simp only [idxV, fge, hx, decide_false, Bool.false_eq_true, if_false]
      exact boil_fge c N r (i + 1) (by omega)
theorem boilV_fge (c n : Int) (l : List Int) : boilV c l n = fge c (n + 1) 0 l := boil_fge c (n + 1) l 0 (by omega)
theorem fge_le (c N : Int) : ∀ (l : List Int) (i : Int), i + l.length ≤ N → fge c N i l ≤ N
  | [], i, _ => by simp [fge]
  | x :: r, i, h => by
    simp only [List.length_cons] at h
    simp only [fge]
    split
    · omega
    · exact fge_le c N r (i + 1) (by omega)
theorem fge_mono (c N : Int) : ∀ (a b : List Int) (i : Int), leL a b → i + a.length ≤ N → fge c N i b ≤ fge c N i a
  | [], [], i, _, _ => by simp [fge]
  | [], _ :: _, _, h, _ => h.elim
  | _ :: _, [], _, h, _ => h.elim
  | x :: r, y :: s, i, h, hN => by
    simp only [List.length_cons] at hN
    simp only [fge]
    by_cases hy : y ≥ c
    · rw [if_pos hy]
      split
      · exact Int.le_refl _
      · rename_i hx
        have : ∀ (l : List Int) (j : Int), i + 1 ≤ j → j + l.length ≤ N → i + 1 ≤ fge c N j l := by
          intro l
          induction l with
          | nil => intro j h1 h2; simp [fge] at *; omega
          | cons z l ih =>
            intro j h1 h2
            simp only [List.length_cons] at h2
            simp only [fge]
            split
            · omega
            · exact ih (j + 1) (by omega) (by omega)
        exact this r (i + 1) (Int.le_refl _) (by omega)
    · have hx : ¬ x ≥ c := by have := h.1; omega
      rw [if_neg hy, if_neg hx]
      exact fge_mono c N r s (i + 1) h.2 (by omega)

theorem p78 (a b : Int) (h1 : 0 < b) (h2 : b ≤ 1000000000) : r78 a b = some (a % b) := by
  unfold r78
  rw [if_pos (by omega)]
  have e := Int.tmod_eq_emod (a := a) (b := b)
  have h3 := Int.emod_nonneg a (show b ≠ 0 by omega)
  have h4 := Int.emod_lt_of_pos a h1
  have hab : (b.natAbs : Int) = b := by omega
  by_cases hc : 0 ≤ a ∨ b ∣ a
  · rw [if_pos hc] at e
    have h5 : a.tmod b = a % b := by omega
    rw [h5]
    have : ¬ a % b < 0 := by omega
    simp [this]
  · rw [if_neg hc, hab] at e
    have hne : a % b ≠ 0 := fun h => hc (Or.inr (Int.dvd_of_emod_eq_zero h))
    have h6 : a.tmod b = a % b - b := by omega
    rw [h6]
    have : a % b - b < 0 := by omega
    rw [if_pos (by simpa using this)]
    congr 1
    have e3 : a % b - b + b = a % b := by omega
    rw [e3]
    exact IntWalk.i64_in _ ⟨by omega, by omega⟩

/-- the flows that are picked -/
def pickV (p : List Int) : Int → List (Int × Int) → List Int
  | _, [] => []
  | i, x :: r => (x.1 + p.getD (i % p.length).toNat default % (x.2 - x.1 + 1)) :: pickV p (i + 1) r
theorem rangesV_all : ∀ {l : List (Int × Int)}, rangesV l = 0 → ∀ x ∈ l, 0 ≤ x.1 ∧ x.1 ≤ x.2 ∧ x.2 ≤ 1000
  | [], _, x, hx => by cases hx
  | y :: r, h, x, hx => by
    simp only [rangesV] at h
    split at h
    · rename_i he
      have hy : 0 ≤ y.1 ∧ y.1 ≤ y.2 ∧ y.2 ≤ 1000 := by
        unfold rangeE at he
        split at he
        · rename_i hi
          split at he
          · rename_i hle
            simp [inR] at hi
            omega
          · cases he
        · cases he
      rcases List.mem_cons.1 hx with rfl | hx
      · exact hy
      · exact rangesV_all h x hx
    · rename_i he; exact absurd h he
theorem pick_in {x : Int × Int} (h : 0 ≤ x.1 ∧ x.1 ≤ x.2 ∧ x.2 ≤ 1000) (q : Int) : x.1 ≤ x.1 + q % (x.2 - x.1 + 1) ∧ x.1 + q % (x.2 - x.1 + 1) ≤ x.2 := by
  have h3 := Int.emod_nonneg q (show x.2 - x.1 + 1 ≠ 0 by omega)
  have h4 := Int.emod_lt_of_pos q (show 0 < x.2 - x.1 + 1 by omega)
  omega
theorem pickV_le (p : List Int) : ∀ (l : List (Int × Int)) (i : Int), (∀ x ∈ l, 0 ≤ x.1 ∧ x.1 ≤ x.2 ∧ x.2 ≤ 1000) →
    leL (l.map (·.1)) (pickV p i l) ∧ leL (pickV p i l) (l.map (·.2)) ∧ allR 0 1000 (l.map (·.1)) ∧ allR 0 1000 (pickV p i l) ∧ allR 0 1000 (l.map (·.2)) ∧ (pickV p i l).length = l.length
  | [], i, _ => ⟨trivial, trivial, trivial, trivial, trivial, rfl⟩
  | x :: r, i, h => by
    obtain ⟨h1, h2, h3, h4, h5, h6⟩ := pickV_le p r (i + 1) (fun y hy => h y (by simp [hy]))
    have hx := h x (by simp)
    have hp := pick_in hx (p.getD (i % p.length).toNat default)
    refine ⟨⟨hp.1, h1⟩, ⟨hp.2, h2⟩, ⟨⟨hx.1, ?_⟩, h3⟩, ⟨⟨by omega, by omega⟩, h4⟩, ⟨⟨?_, ?_⟩, h5⟩, by simp [pickV, h6]⟩
    · show x.1 ≤ 1000
      omega
    · show 0 ≤ x.2
      omega
    · show x.2 ≤ 1000
      omega

/-- the loop that looks for the first tick from the end -/
theorem last_loop (c : Int) (v2 : Int × Int × Int) (hs : List Int) (e : Int) (hl : hs.length < 1000) :
    iterC (b11_2 c v2 (hs, e)) 1000000000 ((hs.length : Int) + 1, (hs.length : Int) - 1) =
      (if (v2.2.2 == 12) = true then some (fge c (hs.length + 1) 0 hs == (IntKind.i64.wrap ((hs.length : Int) + 1))) else (r59 (fge c (hs.length + 1) 0 hs) v2.1 v2.2.1).bind fun v13 => some v13) := by
  have key : ∀ (k fuel : Nat), k ≤ hs.length → k < fuel → iterC (b11_2 c v2 (hs, e)) fuel (fge c (hs.length + 1) k (hs.drop k), (k : Int) - 1) =
      (if (v2.2.2 == 12) = true then some (fge c (hs.length + 1) 0 hs == (IntKind.i64.wrap ((hs.length : Int) + 1))) else (r59 (fge c (hs.length + 1) 0 hs) v2.1 v2.2.1).bind fun v13 => some v13) := by
    intro k
    induction k with
    | zero =>
      intro fuel _ hf
      obtain ⟨m, rfl⟩ : ∃ m, fuel = m + 1 := ⟨fuel - 1, by omega⟩
      have : ¬ (((0 : Nat) : Int) - 1 ≥ 0) := by omega
      simp only [iterC, b11_2, this, decide_false, Bool.false_eq_true, if_false, List.drop_zero]
      rfl
    | succ k ih =>
      intro fuel hk hf
      obtain ⟨m, rfl⟩ : ∃ m, fuel = m + 1 := ⟨fuel - 1, by omega⟩
      have hlt : k < hs.length := by omega
      have hd : hs.drop k = hs.getD k default :: hs.drop (k + 1) := by
        rw [List.drop_eq_getElem_cons hlt]; simp [List.getD_eq_getElem?_getD, hlt]
      have hi := ih m (by omega) (by omega)
      rw [hd] at hi
      have e0 : (((k + 1 : Nat) : Int) - 1) = (k : Int) := by omega
      rw [e0]
      have e1 : (decide ((k : Int) ≥ 0)) = true := by simp
      have e2 : 0 ≤ (k : Int) ∧ (k : Int) < (hs.length : Int) := ⟨by omega, by omega⟩
      have e3 : IntKind.i64.wrap ((k : Int) + 1) = (k : Int) + 1 := wS k (by omega)
      have e4 : IntKind.i64.wrap ((k : Int) - 1) = (k : Int) - 1 := IntWalk.i64_in _ ⟨by omega, by omega⟩
      simp only [iterC, b11_2, e1, if_true, if_pos e2, Int.toNat_natCast, e3, e4]
      by_cases hx : hs.getD k default ≥ c
      · simp only [fge, hx, if_true] at hi
        simp only [hx, decide_true, if_true]
        exact hi
      · simp only [fge, hx, if_false] at hi
        simp only [hx, decide_false, Bool.false_eq_true, if_false]
        exact hi
  have := key hs.length 1000000000 (Nat.le_refl _) (by omega)
  rw [List.drop_length] at this
  exact this

/-- HeatBoils holds of all inputs. -/
theorem boils (a b c : Int) (m : List (Int × Int)) (p : List Int) : r11 a b c m p = some true := by
  unfold r11
  rw [awake, Option.bind_some, if_neg (by simp), p31, gS, Option.getD_some]
  by_cases hs : (((decide ((m.length : Int) > 20)) || ((p.length : Int) == 0)) || (decide ((p.length : Int) > 40))) = true
  · have h0 : (((decide ((m.length : Int) > 20)) || ((p.length : Int) == 0)) || (decide ((p.length : Int) > 40))) = true := hs
    simp only [h0, Bool.true_or, Bool.not_true, Bool.false_eq_true, false_implies, if_true]
  · have h0 : (((decide ((m.length : Int) > 20)) || ((p.length : Int) == 0)) || (decide ((p.length : Int) > 40))) = false := by simpa using hs
    have hm : m.length ≤ 20 ∧ p.length ≠ 0 ∧ p.length ≤ 40 := by
      simp only [Bool.or_eq_false_iff, decide_eq_false_iff_not, beq_eq_false_iff_ne] at h0
      omega
    rw [p36 m (by omega), gS, Option.getD_some, if_neg (show ¬ 200 < m.length by omega)]
    simp only [h0, Bool.false_or]
    by_cases hw : waterErrV a b c = 0
    · by_cases hr : rangesV m = 0
      · simp only [hw, hr, bne_self_eq_false, Bool.or_self, Bool.false_eq_true, if_false]
        rw [if_pos ⟨by omega, by omega⟩, p30 a b c m (by omega), Option.bind_some]
        have hall := rangesV_all hr
        have h8 : (m.length : Int) ≤ 200 := by omega
        have he : (if firstV [waterErrV a b c, codeIf (decide ((m.length : Int) ≤ 200)) 8] = 0 then rangesV m else firstV [waterErrV a b c, codeIf (decide ((m.length : Int) ≤ 200)) 8]) = 0 := by simp [firstV, hw, codeIf, h8, hr]
        rw [he]
        obtain ⟨l1, l2, l3, l4, l5, l6⟩ := pickV_le p m 0 hall
        -- the water
        have hwv : 0 ≤ a ∧ a ≤ 1000000 ∧ 0 ≤ b ∧ b ≤ 1000000 := by
          unfold waterErrV at hw
          split at hw
          · rename_i hi; simp [inR] at hi; omega
          · cases hw
        have g1 := heats_le b hwv.2.2.1 hwv.2.2.2 (pickV p 0 m) (m.map (·.1)) a a l1 l4 l3 hwv.1 (Int.le_refl _) (by simp; omega)
        have g2 := heats_le b hwv.2.2.1 hwv.2.2.2 (m.map (·.2)) (pickV p 0 m) a a l2 l5 l4 hwv.1 (Int.le_refl _) (by rw [l6]; omega)
        have hh := heatsV_len b (pickV p 0 m) a
        have m1 := fge_mono c (m.length + 1) _ _ 0 g1 (by rw [hh, l6]; omega)
        have m2 := fge_mono c (m.length + 1) _ _ 0 g2 (by rw [heatsV_len]; simp; omega)
        -- the loop
        let fin : List Int → Option Bool := fun t => (r19 t).bind fun v10 => (r29 a b c v10).bind fun v11 => if (((v11.2 != 0) || ((v11.1.length : Int) != (t.length : Int))) || (((boilingV a b c m 0).2.2 != 0) && ((boilingV a b c m 0).2.2 != 12))) = true then some false else iterC (b11_2 c (boilingV a b c m 0) v11) 1000000000 (IntKind.i64.wrap ((v11.1.length : Int) + 1), IntKind.i64.wrap ((v11.1.length : Int) - 1))
        have h := iter_list (τ := List Int) m (b11_1 a b c m p (boilingV a b c m 0)) (fun i t => (t, i))
          (fun i t x => if 0 ≤ x.1 ∧ x.1 ≤ x.2 ∧ x.2 ≤ 1000 then (if (t.length + 1) * 8 ≤ 140737488355328 ∧ t.length + 1 ≤ 9223372036854775807 then .next (t ++ [x.1 + p.getD (i % p.length).toNat default % (x.2 - x.1 + 1)]) else .out none) else .out none) fin (by omega)
          (fun i t hi => by
            have hx := hall (m.getD i default) (by simp [List.getD_eq_getElem?_getD, hi])
            have hp := pick_in hx (p.getD ((i : Int) % p.length).toNat default)
            simp only [b11_1, ltN hi, if_true, if_pos (rgN hi), Int.toNat_natCast, wS i (by omega)]
            rw [p78 _ _ (by omega) (by omega)]
            have h3 := Int.emod_nonneg (i : Int) (show (p.length : Int) ≠ 0 by omega)
            have h4 := Int.emod_lt_of_pos (i : Int) (show 0 < (p.length : Int) by omega)
            simp only [bindC, if_pos (And.intro h3 h4)]
            generalize m.getD i default = x at *
            have e1 : IntKind.i64.wrap (x.2 - x.1) = x.2 - x.1 := IntWalk.i64_in _ ⟨by omega, by omega⟩
            have e2 : IntKind.i64.wrap (x.2 - x.1 + 1) = x.2 - x.1 + 1 := IntWalk.i64_in _ ⟨by omega, by omega⟩
            rw [e1, e2, p78 _ _ (by omega) (by omega)]
            simp only
            have e3 : IntKind.i64.wrap (x.1 + p.getD ((i : Int) % p.length).toNat default % (x.2 - x.1 + 1)) = x.1 + p.getD ((i : Int) % p.length).toNat default % (x.2 - x.1 + 1) := IntWalk.i64_in _ ⟨by omega, by omega⟩
            rw [e3, if_pos hx]
            split <;> rfl)
          (fun t => by simp [b11_1, fin]) []
        rw [h]
        have key : ∀ (r : List (Int × Int)) (i : Int) (t : List Int), (∀ x ∈ r, 0 ≤ x.1 ∧ x.1 ≤ x.2 ∧ x.2 ≤ 1000) → t.length + r.length < 1000 →
            foldC (fun i t x => if 0 ≤ x.1 ∧ x.1 ≤ x.2 ∧ x.2 ≤ 1000 then (if (t.length + 1) * 8 ≤ 140737488355328 ∧ t.length + 1 ≤ 9223372036854775807 then (.next (t ++ [x.1 + p.getD (i % p.length).toNat default % (x.2 - x.1 + 1)]) : Ctl (List Int) Bool) else .out none) else .out none) fin i r t = fin (t ++ pickV p i r) := by
          intro r
          induction r with
          | nil => intro i t _ _; simp [foldC, pickV]
          | cons x r ih =>
            intro i t hr ht
            simp only [List.length_cons] at ht
            simp only [foldC]
            rw [if_pos (hr x (by simp)), if_pos ⟨by omega, by omega⟩]
            simp only
            rw [ih _ _ (fun y hy => hr y (by simp [hy])) (by simp; omega)]
            simp [pickV]
        rw [key m 0 [] hall (by simp; omega), List.nil_append]
        simp only [fin]
        rw [p19 _ (by omega), Option.bind_some, p29 _ _ _ _ (by omega), Option.bind_some]
        have hf : firstV [waterErrV a b c, codeIf (decide (((pickV p 0 m).length : Int) ≤ 200)) 8, codeIf ((pickV p 0 m).all fun n => inR n 0 1000) 2] = 0 := by
          have : ((pickV p 0 m).length : Int) ≤ 200 := by omega
          simp only [firstV, hw, codeIf, this, allR_all l4, decide_true, if_true]
        rw [if_pos hf]
        have hb3 : ((boilingV a b c m 0).2.2 != 0 && (boilingV a b c m 0).2.2 != 12) = false := by
          unfold boilingV
          simp only [if_true]
          split <;> rfl
        have hlen : ((heatsV b a (pickV p 0 m)).length : Int) = (m.length : Int) := by rw [hh, l6]
        have hlen2 : ((pickV p 0 m).length : Int) = (m.length : Int) := by rw [l6]
        have ew : IntKind.i64.wrap ((m.length : Int) + 1) = (m.length : Int) + 1 := wS _ (by omega)
        have ew2 : IntKind.i64.wrap ((m.length : Int) - 1) = (m.length : Int) - 1 := IntWalk.i64_in _ ⟨by omega, by omega⟩
        simp only [hb3, hlen, hlen2, bne_self_eq_false, Bool.or_self, Bool.false_eq_true, if_false, ew, ew2]
        have hlast := last_loop c (boilingV a b c m 0) (heatsV b a (pickV p 0 m)) 0 (by omega)
        rw [hlen, ew] at hlast
        rw [hlast]
        have hat := fge_le c (m.length + 1) (heatsV b a (pickV p 0 m)) 0 (by omega)
        unfold boilingV
        simp only [if_true, boilV_fge]
        by_cases hn : fge c (m.length + 1) 0 (heatsV b a (m.map (·.1))) > m.length
        · have : fge c (m.length + 1) 0 (heatsV b a (pickV p 0 m)) = m.length + 1 := by omega
          simp [hn, this]
        · simp only [hn, if_false, p59, Option.bind_some]
          simp [inR, m1, m2]
      · have : (rangesV m != 0) = true := by simp [hr]
        simp only [this, Bool.or_true, if_true]
    · have : (waterErrV a b c != 0) = true := by simp [hw]
      simp only [this, Bool.true_or, if_true]
end Go.Proofs.Ytcbiiijnaeibhaa

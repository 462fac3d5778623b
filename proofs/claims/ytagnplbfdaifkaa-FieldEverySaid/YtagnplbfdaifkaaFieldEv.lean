/- FieldEvery as a plain law. -/
import Derived.Test.YtagnplbfdaifkaaFieldCm
import Derived.Test.YtagnplbfdaifkaaF27
set_option linter.unusedVariables false
set_option linter.unusedSimpArgs false
namespace Go.Proofs.Ytagnplbfdaifkaa
open Go.Abs

theorem p67 (a b : Int) (h : 0 < b) (h2 : b ≤ 1000) : r67 a b = some (a % b) := by
  unfold r67
  have m1 := Int.emod_nonneg a (show b ≠ 0 by omega)
  have m2 := Int.emod_lt_of_pos a h
  rw [if_pos (by omega), Int.tmod_eq_emod]
  by_cases hc : 0 ≤ a ∨ b ∣ a
  · rw [if_pos hc, if_neg (by rw [decide_eq_true_eq]; omega)]; congr 1; omega
  · rw [if_neg hc, if_pos (by rw [decide_eq_true_eq]; omega), wI (by omega) (by omega)]; congr 1; omega
theorem scan_of' {ρ : Type} {f : Nat → Option ρ} : ∀ {k i : Nat}, (∀ j, i ≤ j → j < i + k → f j = none) → scanN f i k = none
  | 0, _, _ => rfl
  | k + 1, i, h => by
    simp only [scanN, h i (by omega) (by omega)]
    exact scan_of' (fun j h1 h2 => h j (by omega) (by omega))
theorem ladE_of' {T : Int} {L : List (Int × Int × Int)} (h : LadOk T L) : ladE T L = 0 := by
  have hp := h.pos
  have hle := h.le
  unfold ladE ladO
  rw [if_pos (inR_iff.2 h.turns), if_neg (by omega), if_neg (by omega), scan_of' (fun j h1 h2 => ?_)]
  · rfl
  · obtain ⟨a, b, c, d⟩ := h.shell _ (getD_mem (show j < L.length by omega))
    unfold shellF
    rw [if_pos]
    unfold shellE
    rw [inR_iff.2 a, inR_iff.2 b, inR_iff.2 ⟨c, by omega⟩, if_pos (by rfl), if_pos d]
theorem bothE_of {T : Int} {L : List (Int × Int × Int)} {f : Int} {H : List Bool} (ok : Ok T L f H) : bothE T L f H = 0 := by
  unfold bothE driveE
  rw [if_pos (ladE_of' ok.lad), if_pos (inR_iff.2 ok.freq), if_pos ok.hot]
theorem clsE_of {T : Int} {L : List (Int × Int × Int)} {R : List (Int × Int)} (h : ladE T L = 0) (hn : R.length = L.length) (hr : ∀ r ∈ R, 1 ≤ r.1 ∧ r.1 ≤ r.2 ∧ r.2 ≤ 4) : clsE T L R = 0 := by
  unfold clsE clsO
  rw [if_neg (by simpa using h), if_pos hn, scan_of' (fun j h1 h2 => ?_)]
  · rfl
  · obtain ⟨a, b, c⟩ := hr _ (getD_mem (show j < R.length by omega))
    unfold rgF
    rw [if_pos]
    unfold rgE
    rw [inR_iff.2 ⟨a, by omega⟩, inR_iff.2 ⟨by omega, c⟩, if_pos (by rfl), if_pos b]
variable {Rg : List (Int × Int)} {X : List Int} {t : Int}
/-- what lies in ranges -/
def Inc (N : Nat) (o : List (Int × Int)) (W : List Int) : Prop := ∀ k, k < N → (o.getD k default).1 ≤ W.getD k default ∧ W.getD k default ≤ (o.getD k default).2
theorem updL_get0 : ∀ (W : List Int) (k : Nat), k < W.length → (updL [] W).getD k default = (W.getD k default, W.getD k default)
  | [], k, h => by simp at h
  | w :: W, 0, _ => rfl
  | w :: W, k + 1, h => by
    simp only [updL, List.getD_cons_succ]
    exact updL_get0 W k (by simpa using h)
theorem updL_getN : ∀ (R : List (Int × Int)) (W : List Int) (k : Nat), k < R.length → W.length = R.length →
    (updL R W).getD k default = ((if W.getD k default < (R.getD k default).1 then W.getD k default else (R.getD k default).1), (if (R.getD k default).2 < W.getD k default then W.getD k default else (R.getD k default).2))
  | [], _, k, h, _ => by simp at h
  | r :: R, w :: W, 0, _, _ => rfl
  | r :: R, w :: W, k + 1, h, hl => by
    simp only [updL, List.getD_cons_succ]
    exact updL_getN R W k (by simpa using h) (by simpa using hl)
  | r :: R, [], _, _, hl => by simp at hl
theorem inc_self {N : Nat} {o : List (Int × Int)} {W : List Int} (ho : InvR N o) (hW : W.length = N) : Inc N (updL o W) W := by
  intro k hk
  rcases ho with rfl | ho
  · rw [updL_get0 W k (by omega)]; exact ⟨Int.le_refl _, Int.le_refl _⟩
  · rw [updL_getN o W k (by omega) (by omega)]
    constructor <;> simp only [] <;> split <;> omega
theorem inc_keep {N : Nat} {o : List (Int × Int)} {W V : List Int} (ho : o.length = N) (hW : W.length = N) (h : Inc N o V) : Inc N (updL o W) V := by
  intro k hk
  have := h k hk
  rw [updL_getN o W k (by omega) (by omega)]
  constructor <;> simp only [] <;> split <;> omega
theorem inc_keeps {N : Nat} {Wf : List Int → List Int} {V : List Int} : ∀ (l : List (List Int)) (o : List (Int × Int)), (∀ p ∈ l, (Wf p).length = N) → o.length = N → Inc N o V → Inc N (l.foldl (fun o p => updL o (Wf p)) o) V
  | [], _, _, _, h => h
  | p :: l, o, hl, ho, h => by
    rw [List.foldl_cons]
    have hw := hl p (List.mem_cons_self ..)
    exact inc_keeps l _ (fun q hq => hl q (List.mem_cons_of_mem _ hq)) (updL_inv (.inr ho) hw) (inc_keep ho hw h)
theorem inc_mem {N : Nat} {Wf : List Int → List Int} {q : List Int} : ∀ (l : List (List Int)) (o : List (Int × Int)), (∀ p ∈ l, (Wf p).length = N) → InvR N o → q ∈ l → Inc N (l.foldl (fun o p => updL o (Wf p)) o) (Wf q)
  | [], _, _, _, h => by cases h
  | p :: l, o, hl, ho, h => by
    rw [List.foldl_cons]
    have hw := hl p (List.mem_cons_self ..)
    have h2 : ∀ q ∈ l, (Wf q).length = N := fun q hq => hl q (List.mem_cons_of_mem _ hq)
    rcases List.mem_cons.1 h with rfl | h
    · exact inc_keeps l _ h2 (updL_inv ho hw) (inc_self ho hw)
    · exact inc_mem l _ h2 (.inr (updL_inv ho hw)) h
theorem mem_chR {q : List Int} : ∀ k, k ≤ q.length → k ≤ Rg.length → (∀ i, i < k → (Rg.getD i default).1 ≤ q.getD i default ∧ q.getD i default ≤ (Rg.getD i default).2) → q.take k ∈ chR Rg k
  | 0, _, _, _ => by simp [chR]
  | k + 1, h1, h2, h => by
    have ih := mem_chR (q := q) k (by omega) (by omega) (fun i hi => h i (by omega))
    rw [chR, List.mem_flatMap]
    refine ⟨q.take k, ih, List.mem_map.2 ⟨q.getD k default, rngI_mem.2 (h k (by omega)), ?_⟩⟩
    rw [take_getD (show k < q.length by omega)]
theorem full_pts (Wf : List Int → List Int) : ∀ (q p : List Int) (o : List (Int × Int)), full Wf p (q.map fun n => (n, n)) o = updL o (Wf (p ++ q))
  | [], p, o => by simp [full]
  | n :: q, p, o => by
    rw [List.map_cons]
    unfold full
    rw [rngI_cons (Int.le_refl _), rngI_nil (by omega)]
    simp only [List.foldl_cons, List.foldl_nil]
    rw [full_pts Wf q (p ++ [n]) o, List.append_assoc]; rfl
/-- the conductances that numbers pick -/
def pick (Rg : List (Int × Int)) (y : List Int) : Nat → List Int
  | 0 => []
  | k + 1 => pick Rg y k ++ [(Rg.getD k default).1 + y.getD k default % ((Rg.getD k default).2 - (Rg.getD k default).1 + 1)]
theorem pick_len (Rg : List (Int × Int)) (y : List Int) : ∀ k, (pick Rg y k).length = k
  | 0 => rfl
  | k + 1 => by simp [pick, pick_len Rg y k]
theorem pick_get (Rg : List (Int × Int)) (y : List Int) : ∀ k i, i < k → (pick Rg y k).getD i default = (Rg.getD i default).1 + y.getD i default % ((Rg.getD i default).2 - (Rg.getD i default).1 + 1)
  | 0, i, h => by omega
  | k + 1, i, h => by
    unfold pick
    by_cases e : i = k
    · subst e
      rw [List.getD_eq_getElem?_getD, List.getElem?_append_right (by rw [pick_len]; exact Nat.le_refl _), pick_len, Nat.sub_self]; rfl
    · rw [List.getD_eq_getElem?_getD, List.getElem?_append_left (by rw [pick_len]; omega), ← List.getD_eq_getElem?_getD]
      exact pick_get Rg y k i (by omega)
theorem pick_rng (hr : ∀ r ∈ Rg, 1 ≤ r.1 ∧ r.1 ≤ r.2 ∧ r.2 ≤ 4) (y : List Int) {k i : Nat} (h : i < k) (hk : k ≤ Rg.length) : (Rg.getD i default).1 ≤ (pick Rg y k).getD i default ∧ (pick Rg y k).getD i default ≤ (Rg.getD i default).2 := by
  have hg := hr _ (getD_mem (show i < Rg.length by omega))
  rw [pick_get Rg y k i h]
  have m1 := Int.emod_nonneg (y.getD i default) (show (Rg.getD i default).2 - (Rg.getD i default).1 + 1 ≠ 0 by omega)
  have m2 := Int.emod_lt_of_pos (y.getD i default) (show 0 < (Rg.getD i default).2 - (Rg.getD i default).1 + 1 by omega)
  omega
theorem pick_in4 (hr : ∀ r ∈ Rg, 1 ≤ r.1 ∧ r.1 ≤ r.2 ∧ r.2 ≤ 4) (y : List Int) {k : Nat} (hk : k ≤ Rg.length) : In4 (pick Rg y k) := by
  intro c hc
  obtain ⟨i, hi, rfl⟩ := List.getElem_of_mem hc
  rw [pick_len] at hi
  have h3 := pick_rng hr y hi hk
  have h4 := hr _ (getD_mem (show i < Rg.length by omega))
  rw [List.getD_eq_getElem?_getD (l := pick Rg y k), List.getElem?_eq_getElem (by rw [pick_len]; exact hi), Option.getD_some] at h3
  omega
variable {T : Int} {L : List (Int × Int × Int)} {f : Int} {H : List Bool}
def stE (L : List (Int × Int × Int)) (Rg : List (Int × Int)) (y : List Int) (k : Nat) : Int × List (Int × Int) × List (Int × Int × Int) := ((k : Int), (pick Rg y k).map (fun n => (n, n)), setC L (pick Rg y k))
def gE (k : Nat) (y : Int) (Rg : List (Int × Int)) (s1 : Int × List (Int × Int) × List (Int × Int × Int)) : Ctl (Int × List (Int × Int) × List (Int × Int × Int)) Bool :=
  if 0 ≤ k ∧ (k : Int) < (Rg.length : Int) then
   if 0 ≤ k ∧ (k : Int) < (Rg.length : Int) then
    if 0 ≤ k ∧ (k : Int) < (Rg.length : Int) then
     bindC (r67 y (IntKind.i64.wrap ((IntKind.i64.wrap (((Rg.getD k default).2) - ((Rg.getD k default).1))) + 1))) fun v33 =>
      if 0 ≤ k ∧ (k : Int) < (s1.2.2.length : Int) then
       if (s1.2.1.length + 1) * 16 ≤ 140737488355328 ∧ s1.2.1.length + 1 ≤ 9223372036854775807 then
        .next (IntKind.i64.wrap ((k : Int) + 1), s1.2.1 ++ [(IntKind.i64.wrap (((Rg.getD k default).1) + v33), IntKind.i64.wrap (((Rg.getD k default).1) + v33))], s1.2.2.set k (IntKind.i64.wrap (((Rg.getD k default).1) + v33), (s1.2.2.getD k default).2.1, (s1.2.2.getD k default).2.2))
        else .out none
       else .out none
     else .out none
    else .out none
   else .out none
theorem gE_eq (hr : ∀ r ∈ Rg, 1 ≤ r.1 ∧ r.1 ≤ r.2 ∧ r.2 ≤ 4) (hN : Rg.length = L.length) (hL : L.length ≤ 4) (ys : List Int) {k : Nat} (hk : k < L.length) :
    gE k (ys.getD k default) Rg (stE L Rg ys k) = .next (stE L Rg ys (k + 1)) := by
  have hg := hr _ (getD_mem (show k < Rg.length by omega))
  have hkR : k < Rg.length := by omega
  have hsl := setC_len L (pick Rg ys k)
  have hpl := pick_len Rg ys k
  have hs := setC_snoc L (pick Rg ys k) ((Rg.getD k default).1 + ys.getD k default % ((Rg.getD k default).2 - (Rg.getD k default).1 + 1)) (by omega)
  rw [hpl] at hs
  have hr1 := pick_rng hr ys (show k < k + 1 by omega) (by omega)
  rw [pick_get _ _ _ _ (by omega)] at hr1
  have e67 := p67 (ys.getD k default) ((Rg.getD k default).2 - (Rg.getD k default).1 + 1) (by omega) (by omega)
  have w1 : IntKind.i64.wrap ((Rg.getD k default).2 - (Rg.getD k default).1) = (Rg.getD k default).2 - (Rg.getD k default).1 := wI (by omega) (by omega)
  have w2 : IntKind.i64.wrap ((Rg.getD k default).2 - (Rg.getD k default).1 + 1) = (Rg.getD k default).2 - (Rg.getD k default).1 + 1 := wI (by omega) (by omega)
  have w3 : IntKind.i64.wrap ((Rg.getD k default).1 + ys.getD k default % ((Rg.getD k default).2 - (Rg.getD k default).1 + 1)) = (Rg.getD k default).1 + ys.getD k default % ((Rg.getD k default).2 - (Rg.getD k default).1 + 1) := wI (by omega) (by omega)
  have hkS : k < (setC L (pick Rg ys k)).length := by omega
  have g1 : 0 ≤ k ∧ (k : Int) < (Rg.length : Int) := ⟨Nat.zero_le _, by omega⟩
  have g2 : 0 ≤ k ∧ (k : Int) < ((setC L (pick Rg ys k)).length : Int) := ⟨Nat.zero_le _, by omega⟩
  have hmem : (((pick Rg ys k).map (fun n => (n, n))).length + 1) * 16 ≤ 140737488355328 ∧ ((pick Rg ys k).map (fun n => (n, n))).length + 1 ≤ 9223372036854775807 := by
    rw [List.length_map, hpl]; exact ⟨by omega, by omega⟩
  simp only [gE, stE, if_pos g1, w1, w2, e67, bindC, w3, if_pos g2, if_pos hmem]
  rw [wS k (by omega), ← hs]
  simp only [pick, List.map_append, List.map_cons, List.map_nil]
  rfl
theorem stepE (hr : ∀ r ∈ Rg, 1 ≤ r.1 ∧ r.1 ≤ r.2 ∧ r.2 ≤ 4) (hN : Rg.length = L.length) (hL : L.length ≤ 4) (y0 y1 y2 y3 : Int) (v3 : Int × List (Int × Int × Int)) {k : Nat} (hk : k < L.length) :
    b12_1 T L Rg f H y0 y1 y2 y3 t v3 (stE L Rg [y0, y1, y2, y3, t] k) = .next (stE L Rg [y0, y1, y2, y3, t] (k + 1)) := by
  rw [← gE_eq hr hN hL [y0, y1, y2, y3, t] hk]
  have hsl := setC_len L (pick Rg [y0, y1, y2, y3, t] k)
  have hk4 : k = 0 ∨ k = 1 ∨ k = 2 ∨ k = 3 := by omega
  unfold b12_1
  rw [if_pos (show decide ((stE L Rg [y0, y1, y2, y3, t] k).1 < ((stE L Rg [y0, y1, y2, y3, t] k).2.2.length : Int)) = true by
    rw [decide_eq_true_eq]; show (k : Int) < ((setC L (pick Rg [y0, y1, y2, y3, t] k)).length : Int); omega)]
  rcases hk4 with rfl | rfl | rfl | rfl
  · rw [if_pos (show (stE L Rg [y0, y1, y2, y3, t] 0).1 = 0 from rfl)]; rfl
  · rw [if_neg (show ¬ ((stE L Rg [y0, y1, y2, y3, t] 1).1 = 0) from fun h => absurd (show ((1 : Nat) : Int) = 0 from h) (by decide)), if_pos (show (stE L Rg [y0, y1, y2, y3, t] 1).1 = 1 from rfl)]; rfl
  · rw [if_neg (show ¬ ((stE L Rg [y0, y1, y2, y3, t] 2).1 = 0) from fun h => absurd (show ((2 : Nat) : Int) = 0 from h) (by decide)), if_neg (show ¬ ((stE L Rg [y0, y1, y2, y3, t] 2).1 = 1) from fun h => absurd (show ((2 : Nat) : Int) = 1 from h) (by decide)), if_pos (show (stE L Rg [y0, y1, y2, y3, t] 2).1 = 2 from rfl)]; rfl
  · rw [if_neg (show ¬ ((stE L Rg [y0, y1, y2, y3, t] 3).1 = 0) from fun h => absurd (show ((3 : Nat) : Int) = 0 from h) (by decide)), if_neg (show ¬ ((stE L Rg [y0, y1, y2, y3, t] 3).1 = 1) from fun h => absurd (show ((3 : Nat) : Int) = 1 from h) (by decide)), if_neg (show ¬ ((stE L Rg [y0, y1, y2, y3, t] 3).1 = 2) from fun h => absurd (show ((3 : Nat) : Int) = 2 from h) (by decide)), if_pos (show (stE L Rg [y0, y1, y2, y3, t] 3).1 = 3 from rfl)]; rfl
theorem p62' (T : Int) (L : List (Int × Int × Int)) (R : List (Int × Int)) : r62 T L R = clsO T L R := by
  by_cases hR : R.length ≤ 1000000
  · exact p62 T L R hR
  · obtain ⟨i, h⟩ := lad_eq T L
    unfold r62 clsO
    rw [p29, h, Option.bind_some]
    by_cases hl : ladE T L = 0
    · have hle := (ladOk_of hl).le
      rw [if_neg (show ¬ (ladE T L ≠ 0) by simpa using hl), if_neg (by simp [hl]), if_neg (show ¬ (R.length = L.length) by omega), if_pos (by simp; omega)]
    · rw [if_pos hl, if_pos (by simpa using hl)]
theorem p66 (T : Int) (L : List (Int × Int × Int)) (R : List (Int × Int)) : r66 T L R = some (clsE T L R) := by
  obtain ⟨i, hc⟩ := cls_eq T L R
  unfold r66
  rw [p62', hc]; rfl
theorem endE {W : List Int} {O S : List (Int × Int)} {N : Nat} (hW : W.length = N) (hO : O.length = N) (hS : S.length = N) (hN : N ≤ 4) (hi : Inc N O W) (hs : S = updL [] W) : iterC (b12_2 (W, 0) (O, 0) (S, 0)) 1000000000 0 = some true := by
  have key := iter_run W.length (b12_2 (W, 0) (O, 0) (S, 0)) (fun j => (j : Int)) (some true) (by omega) (fun j hj => by
    have e1 := hi j (by omega)
    have e2 := updL_get0 W j hj
    rw [← hs] at e2
    have hjO : j < O.length := by omega
    have hjS : j < S.length := by omega
    have e3 : inR (W.getD j default) (O.getD j default).1 (O.getD j default).2 = true := inR_iff.2 e1
    simp only [b12_2, ltN hj, if_true, if_pos (rgN hj), Int.toNat_natCast, if_pos (rgN hjO), p33, bindC, e3, e2, wS j (by omega)]
    rw [if_pos (fun _ => rgN hjS), if_pos (fun _ => rgN hj), if_pos (fun _ => rgN hj), if_neg (by simp)]
    rfl) (by
    unfold b12_2
    rw [if_neg (by simp)])
  exact key
theorem fold_len {N : Nat} {Wf : List Int → List Int} : ∀ (l : List (List Int)) (o : List (Int × Int)), (∀ p ∈ l, (Wf p).length = N) → InvR N o → l ≠ [] → (l.foldl (fun o p => updL o (Wf p)) o).length = N
  | [], _, _, _, h => absurd rfl h
  | p :: l, o, h, ho, _ => by
    rw [List.foldl_cons]
    have := updL_inv ho (h p (List.mem_cons_self ..))
    exact foldl_inv (fun (o : List (Int × Int)) => o.length = N) _ l _ this (fun a ha o ho => updL_inv (.inr ho) (h a (List.mem_cons_of_mem _ ha)))
theorem every (T : Int) (L : List (Int × Int × Int)) (R : List (Int × Int)) (f : Int) (H : List Bool) (y0 y1 y2 y3 t : Int) : r12 T L R f H y0 y1 y2 y3 t = some true := by
  unfold r12
  rw [awake, Option.bind_some, if_neg (by simp), p66, Option.bind_some]
  by_cases h1 : clsE T L R = 0
  · by_cases h2 : driveE L.length f H = 0
    · rw [p63, p37, gS, gS]
      simp only [Option.getD_some]
      cases ht : inR t 0 100000 with
      | false => rw [if_pos (by simp [codeIf])]
      | true =>
        have it := inR_iff.1 ht
        obtain ⟨ok, cl⟩ := cl_of h1 h2 it.1 it.2
        obtain ⟨c1, c2, c3⟩ := cls_ok h1
        have hle := ok.lad.le
        have hhot := ok.hot
        have hrl := reactV_len f L H ok.hot
        rw [if_neg (by simp [codeIf, h1, h2]), p19 T L (by omega), Option.bind_some]
        have hQ4 : In4 (pick R [y0, y1, y2, y3, t] L.length) := pick_in4 c3 _ (by omega)
        have hQl := pick_len R [y0, y1, y2, y3, t] L.length
        generalize hQ : pick R [y0, y1, y2, y3, t] L.length = Q at hQ4 hQl
        have ok2 := setC_ok ok hQ4
        have hw := cl.w hQ4 (by omega)
        have b2 := bothE_of ok2
        have e38 : r38 T (setC L Q) f H t = some (watQ (reactV f L H) t Q, 0) := by
          rw [p38, if_neg (by simpa using b2), ht, if_pos rfl, setC_conds L Q hQl, setC_react]; rfl
        have hpts : ∀ r ∈ Q.map (fun n => (n, n)), 1 ≤ r.1 ∧ r.1 ≤ r.2 ∧ r.2 ≤ 4 := by
          intro r hr
          obtain ⟨n, hn, rfl⟩ := List.mem_map.1 hr
          have := hQ4 n hn
          exact ⟨this.1, Int.le_refl _, this.2⟩
        have cE : clsE T L (Q.map fun n => (n, n)) = 0 := clsE_of c1 (by rw [List.length_map, hQl]) hpts
        have e61 : r61 T L R f H t = some (full (watQ (reactV f L H) t) [] R [], 0) := by
          rw [p61 T L R f H t (by omega), if_neg (by simpa using h1), if_neg (by simpa using h2), ht, if_pos rfl]
        have e61' : r61 T L (Q.map fun n => (n, n)) f H t = some (updL [] (watQ (reactV f L H) t Q), 0) := by
          rw [p61 T L _ f H t (by rw [List.length_map]; omega), if_neg (by simpa using cE), if_neg (by simpa using h2), ht, if_pos rfl, full_pts]; rfl
        have hmem : Q ∈ chR R R.length := by
          have := mem_chR (Rg := R) (q := Q) R.length (by omega) (Nat.le_refl _) (fun i hi => by
            rw [← hQ]; exact pick_rng c3 _ (by omega) (by omega))
          rwa [show R.length = Q.length by omega, List.take_length, ← show R.length = Q.length by omega] at this
        have hinc : Inc (reactV f L H).length (full (watQ (reactV f L H) t) [] R []) (watQ (reactV f L H) t Q) := by
          rw [full_eq]
          exact inc_mem _ _ (fun p hp => by
            obtain ⟨g1, g2⟩ := chR_in4 cl.r hp
            exact (cl.w g2 (by have := cl.len; omega)).2) (.inl rfl) hmem
        have hfl : (full (watQ (reactV f L H) t) [] R []).length = (reactV f L H).length := by
          rw [full_eq]
          exact fold_len _ _ (fun p hp => by
            obtain ⟨g1, g2⟩ := chR_in4 cl.r hp
            exact (cl.w g2 (by have := cl.len; omega)).2) (.inl rfl) (fun h => by rw [h] at hmem; cases hmem)
        have hsl : (updL [] (watQ (reactV f L H) t Q)).length = (reactV f L H).length := by rw [updL_len0]; exact hw.2
        have key := iter_run L.length (b12_1 T L R f H y0 y1 y2 y3 t (T, L)) (fun k => stE L R [y0, y1, y2, y3, t] k) (some true) (by omega) (fun k hk => stepE c3 c2 hle y0 y1 y2 y3 (T, L) hk) (by
          unfold b12_1
          rw [if_neg (by
            rw [decide_eq_true_eq]
            show ¬ ((L.length : Int) < ((setC L (pick R [y0, y1, y2, y3, t] L.length)).length : Int))
            rw [setC_len]; omega)]
          simp only [stE, hQ]
          rw [p20 f H (by omega), Option.bind_some, e38, Option.bind_some, p60 T L R (by omega) (by omega), Option.bind_some, e61, Option.bind_some, e61', Option.bind_some, if_neg (by
            have e5 : ((reactV f L H).length : Int) = (R.length : Int) := by have := cl.len; omega
            simp [hw.2, hfl, hsl, e5])]
          rw [endE hw.2 hfl hsl (by omega) hinc rfl])
        have e0 : stE L R [y0, y1, y2, y3, t] 0 = (0, [], L) := by
          unfold stE pick; rw [setC_nil]; rfl
        rw [e0] at key
        exact key
    · rw [p63, p37, gS, gS, if_pos (by simp [h2])]
  · rw [p63, p37, gS, gS, if_pos (by simp [h1])]
end Go.Proofs.Ytagnplbfdaifkaa

/- FieldDeeper as a plain law. -/
import Derived.Test.YtagnplbfdaifkaaFieldH
import Derived.Test.YtagnplbfdaifkaaF11
set_option linter.unusedVariables false
set_option linter.unusedSimpArgs false
namespace Go.Proofs.Ytagnplbfdaifkaa
open Go.Abs

theorem scan_of {ρ : Type} {f : Nat → Option ρ} : ∀ {k i : Nat}, (∀ j, i ≤ j → j < i + k → f j = none) → scanN f i k = none
  | 0, _, _ => rfl
  | k + 1, i, h => by
    simp only [scanN, h i (by omega) (by omega)]
    exact scan_of (fun j h1 h2 => h j (by omega) (by omega))
theorem ladE_of {T : Int} {L : List (Int × Int × Int)} (h : LadOk T L) : ladE T L = 0 := by
  have hp := h.pos
  have hle := h.le
  unfold ladE ladO
  rw [if_pos (inR_iff.2 h.turns), if_neg (by omega), if_neg (by omega), scan_of (fun j h1 h2 => ?_)]
  · rfl
  · obtain ⟨a, b, c, d⟩ := h.shell _ (getD_mem (show j < L.length by omega))
    unfold shellF
    rw [if_pos]
    unfold shellE
    rw [inR_iff.2 a, inR_iff.2 b, inR_iff.2 ⟨c, by omega⟩, if_pos (by rfl), if_pos d]
/-- a ladder whose first i shells have a conductance -/
def eqL (c : Int) (L : List (Int × Int × Int)) (i : Nat) : List (Int × Int × Int) := (L.take i).map (fun s => (c, s.2)) ++ L.drop i
theorem eqL_len (c : Int) (L : List (Int × Int × Int)) (i : Nat) : (eqL c L i).length = L.length := by
  simp [eqL]; omega
theorem eqL_get (c : Int) (L : List (Int × Int × Int)) (i : Nat) (hi : i < L.length) : (eqL c L i).getD i default = L.getD i default := by
  unfold eqL
  rw [List.getD_eq_getElem?_getD, List.getElem?_append_right (by simp; omega), List.getElem?_drop, List.getD_eq_getElem?_getD]
  congr 2
  simp; omega
theorem eqL_zero (L : List (Int × Int × Int)) (i : Nat) (hi : i < L.length) : ((eqL (L.getD 0 default).1 L i).getD 0 default).1 = (L.getD 0 default).1 := by
  cases i with
  | zero => simp [eqL]
  | succ i =>
    cases L with
    | nil => simp at hi
    | cons s L => rfl
theorem eqL_set (c : Int) (L : List (Int × Int × Int)) (i : Nat) (hi : i < L.length) : (eqL c L i).set i (c, (L.getD i default).2.1, (L.getD i default).2.2) = eqL c L (i + 1) := by
  unfold eqL
  rw [List.set_append_right _ _ (by simp; omega), take_getD hi, List.map_append, List.drop_eq_getElem_cons hi, List.length_map, List.length_take, Nat.min_eq_left (by omega), Nat.sub_self, List.append_assoc]
  rfl
theorem conds_eqL (c : Int) (L : List (Int × Int × Int)) (i : Nat) (hi : i < L.length) : (condsV (eqL c L L.length)).getD i default = c := by
  rw [condsV_get _ _ (by rw [eqL_len]; exact hi)]
  unfold eqL
  rw [List.take_length, List.drop_length, List.append_nil, List.getD_eq_getElem?_getD, List.getElem?_map, List.getElem?_eq_getElem hi]; rfl
theorem vV_grow {cs xs : List Int} (h : Lad cs xs) {k : Nat} (hk : k < cs.length) : nrm (vV cs xs (k + 1)) ≤ nrm (vV cs xs k) := by
  have hx : k < xs.length := by rw [h.len]; exact hk
  have hd := h.drop k
  unfold vV
  rw [drop_getD hk, drop_getD hx] at *
  exact nrm_grow hd
theorem deeper (T : Int) (L : List (Int × Int × Int)) (f : Int) (H : List Bool) : r6 T L f H = some true := by
  unfold r6
  rw [awake, Option.bind_some, if_neg (by simp), p22, Option.bind_some]
  by_cases h : bothE T L f H = 0
  · rw [if_neg (by simp [h])]
    have ok := ok_of h
    have hp := ok.lad.pos
    have hle := ok.lad.le
    rw [p19 T L (by omega), Option.bind_some]
    have hL2 : LadOk T (eqL (L.getD 0 default).1 L L.length) := by
      refine ⟨ok.lad.turns, by rw [eqL_len]; exact hp, by rw [eqL_len]; exact hle, fun s hs => ?_⟩
      unfold eqL at hs
      rw [List.take_length, List.drop_length, List.append_nil] at hs
      obtain ⟨u, hu, rfl⟩ := List.mem_map.1 hs
      exact ⟨(ok.lad.shell _ (getD_mem (show 0 < L.length by omega))).1, (ok.lad.shell u hu).2⟩
    have hb : bothE T (eqL (L.getD 0 default).1 L L.length) f H = 0 := by
      unfold bothE
      rw [if_pos (ladE_of hL2), eqL_len]
      unfold driveE
      rw [if_pos (inR_iff.2 ok.freq), if_pos ok.hot]
    have ok2 := ok_of hb
    have hcv := fun i hi => conds_eqL (L.getD 0 default).1 L i hi
    have hlen := eqL_len (L.getD 0 default).1 L L.length
    have hcl := condsV_len (eqL (L.getD 0 default).1 L L.length)
    have hlad := ok2.ladr
    have hpl := powV_len _ _ hlad.len
    refine iter_run L.length (b6_1 f H (T, L)) (fun i => ((i : Int), eqL (L.getD 0 default).1 L i)) (some true) (by omega) (fun i hi => ?_) ?_
    · simp only [b6_1, eqL_len, ltN hi, if_true, if_pos (rgN hi), Int.toNat_natCast, wS i (by omega), eqL_zero L i hi, eqL_get _ L i hi, eqL_set _ L i hi]
      rw [if_pos ⟨by omega, by omega⟩]; rfl
    · unfold b6_1
      rw [if_neg (by simp [eqL_len])]
      simp only []
      rw [p19 T _ (by omega), Option.bind_some, p20 f H (by have := ok.hot; omega), Option.bind_some, p36, if_pos hb, Option.bind_some]
      generalize eqL (L.getD 0 default).1 L L.length = L2 at *
      rw [if_neg (by simp [hpl, hcl])]
      congr 1
      have := iter_run (L2.length - 1) (b6_2 (powV (condsV L2) (reactV f L2 H), 0)) (fun i => (i : Int) + 1) (some true) (by omega) (fun i hi => by
        have e0 : (i : Int) + 1 = ((i + 1 : Nat) : Int) := by omega
        have e1 : IntKind.i64.wrap (((i + 1 : Nat) : Int) - 1) = (i : Int) := by rw [wI (by omega) (by omega)]; omega
        have e2 : IntKind.i64.wrap (((i + 1 : Nat) : Int) + 1) = ((i + 1 : Nat) : Int) + 1 := wI (by omega) (by omega)
        have hpi : i + 1 < (powV (condsV L2) (reactV f L2 H)).length := by omega
        have hpj : i < (powV (condsV L2) (reactV f L2 H)).length := by omega
        simp only [b6_2, e0, e1, e2, ltN hpi, if_true, if_pos (rgN hpi), if_pos (rgN hpj), Int.toNat_natCast]
        rw [if_neg]
        simp only [gt_iff_lt, decide_eq_true_eq, Int.not_lt]
        rw [powV_get hlad.len (i + 1) (by omega), powV_get hlad.len i (by omega)]
        have hc : (condsV L2).getD (i + 1) default = (condsV L2).getD i default := by rw [hcv (i + 1) (by omega), hcv i (by omega)]
        rw [hc]
        exact Int.mul_le_mul_of_nonneg_left (vV_grow hlad (by omega)) (by have := (hlad.c _ (getD_mem (show i < (condsV L2).length by omega))).1; omega)) (by
        unfold b6_2
        rw [if_neg (by simp; omega)])
      simpa using this
  · rw [if_pos (by simpa using h)]
end Go.Proofs.Ytagnplbfdaifkaa

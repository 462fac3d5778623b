/- FieldKept as a plain law. -/
import Derived.Test.YtagnplbfdaifkaaFieldV
import Derived.Test.YtagnplbfdaifkaaFieldH
import Derived.Test.YtagnplbfdaifkaaF21
set_option linter.unusedVariables false
set_option linter.unusedSimpArgs false
namespace Go.Proofs.Ytagnplbfdaifkaa
open Go.Abs

theorem bd_all : ∀ {cs xs : List Int}, Lad cs xs → cs.length ≤ 4 → ∀ v ∈ (solV cs xs).1, Bd 1000000000 v
  | [], [], _, _, v, hv => by
    simp only [solV, List.mem_singleton] at hv
    subst hv
    exact ⟨by decide, by decide, by decide, by decide⟩
  | c :: cs, x :: xs, h, h4, v, hv => by
    rw [solV_cons, List.mem_cons] at hv
    rcases hv with rfl | hv
    · obtain ⟨a, b, c', d⟩ := (solV_bd h).1
      have := bV_le (n := (c :: cs).length) h4
      unfold hV
      exact ⟨by omega, by omega, by omega, by omega⟩
    · exact bd_all h.tail (by simp at h4; omega) v hv
  | [], _ :: _, h, _, _, _ => by have := h.len; simp at this
  | _ :: _, [], h, _, _, _ => by have := h.len; simp at this
theorem sol_last : ∀ {cs xs : List Int}, xs.length = cs.length → (solV cs xs).1.getD cs.length default = (1, 0)
  | [], [], _ => rfl
  | c :: cs, x :: xs, h => by
    rw [solV_cons, List.length_cons, List.getD_cons_succ]
    exact sol_last (by simpa using h)
  | [], _ :: _, h => by simp at h
  | _ :: _, [], h => by simp at h
theorem finS_zero {w : Int} (h : w = -1 ∨ 0 ≤ w) : (finS w).2 = 0 ↔ w = -1 := by
  unfold finS
  rcases h with h | h
  · subst h; simp
  · rw [if_pos h]; simp; omega
theorem chk_sol {cs xs : List Int} (h : Lad cs xs) (h4 : cs.length ≤ 4) : chkV cs xs (solV cs xs).1 = (0, 0) := by
  unfold chkV
  rw [if_pos (solV_len cs xs h.len).1, if_pos, if_pos (sol_last h.len)]
  · have := (wr_iff (l := (solV cs xs).1) (k := 0) (by omega) h.len (solV_len cs xs h.len).1 (sol_last h.len)).2 rfl
    have e : wrS cs xs (solV cs xs).1 0 = -1 := by
      unfold wrS; simpa using this
    rw [e]; rfl
  · refine List.all_eq_true.2 (fun v hv => ?_)
    obtain ⟨a, b, c, d⟩ := bd_all h h4 v hv
    simp only [partB, Bool.and_eq_true, inR_iff]
    exact ⟨⟨a, b⟩, c, d⟩
theorem chk_iff {cs xs : List Int} (h : Lad cs xs) (h4 : cs.length ≤ 4) (l : List (Int × Int)) : (chkV cs xs l).2 = 0 ↔ (solV cs xs).1 = l := by
  constructor
  · intro hc
    unfold chkV at hc
    split at hc
    · rename_i h1
      split at hc
      · split at hc
        · rename_i h3
          have hr : wrS cs xs l 0 = -1 ∨ (0 : Int) ≤ wrS cs xs l 0 := wr_rng (by simp)
          rw [finS_zero hr] at hc
          have : wr 0 cs xs l = -1 := by unfold wrS at hc; simpa using hc
          exact ((wr_iff (by omega) h.len h1 h3).1 this).symm
        · cases hc
      · cases hc
    · cases hc
  · intro e
    rw [← e, chk_sol h h4]
theorem prodB {v i b c : Int} (h1 : -b ≤ v) (h2 : v ≤ b) (h3 : -c ≤ i) (h4 : i ≤ c) : -(b * c) ≤ v * i ∧ v * i ≤ b * c := by
  have e : b * c = c * b := Int.mul_comm b c
  have e' : v * i = i * v := Int.mul_comm v i
  rcases Int.le_total 0 i with h | h
  · have := mulB h h4 h1 h2
    omega
  · have := mulB (c := -i) (C := c) (by omega) (by omega) h1 h2
    rw [Int.neg_mul] at this
    omega
theorem kept (T : Int) (L : List (Int × Int × Int)) (f : Int) (H : List Bool) (l : List (Int × Int)) : r13 T L f H l = some true := by
  unfold r13
  rw [awake, Option.bind_some, if_neg (by simp), p22, Option.bind_some]
  by_cases hf : (bothE T L f H != 0 || decide ((l.length : Int) > 8)) = true
  · rw [if_pos hf]
  · rw [if_neg hf]
    have hb : bothE T L f H = 0 := by
      by_cases h : bothE T L f H = 0
      · exact h
      · simp [h] at hf
    have hl : l.length ≤ 8 := by
      simp only [Bool.or_eq_true, decide_eq_true_eq, not_or] at hf
      omega
    have ok := ok_of hb
    have hp := ok.lad.pos
    have hle := ok.lad.le
    have h := ok.ladr
    have h1 := ok.lenc.1
    have h4 := ok.lenc.2
    have hcl := condsV_len L
    obtain ⟨p1, p2, p3⟩ := pow_ok h h4
    obtain ⟨l1, l2⟩ := solV_len (condsV L) (reactV f L H) h.len
    rw [p19 T L (by omega), Option.bind_some, p20 f H (by have := ok.hot; omega), Option.bind_some, p32, Option.bind_some, p53, Option.bind_some, p36, Option.bind_some]
    simp only [if_pos hb]
    have e1 : IntKind.i64.wrap ((L.length : Int) + 1) = ((L.length + 1 : Nat) : Int) := by rw [wI (by omega) (by omega)]; rfl
    rw [e1, if_neg (by simp; omega), p55 _ (by omega), Option.bind_some, p54 _ _ _ _ _ (by omega), Option.bind_some, p55 l (by omega), Option.bind_some, p54 _ _ _ _ _ (by omega), Option.bind_some]
    simp only [if_pos hb]
    rw [chk_sol h h4, p58 _ _ (by omega)]
    have heq : (((chkV (condsV L) (reactV f L H) l).2 == 0) == decide ((solV (condsV L) (reactV f L H)).1 = l)) = true := by
      have := chk_iff h h4 l
      by_cases hq : (solV (condsV L) (reactV f L H)).1 = l
      · rw [this.2 hq, decide_eq_true hq]; rfl
      · have : ¬ ((chkV (condsV L) (reactV f L H) l).2 = 0) := fun hh => hq (this.1 hh)
        rw [decide_eq_false hq]; simp [this]
    have g0 := solV_get h.len 0 (by omega)
    have gi := solI_get h.len 0 (by omega)
    have b0 := (solV_bd h).1
    have bi := (solV_bd h).2
    have hsum := pow_sum h.len
    have ev : vV (condsV L) (reactV f L H) 0 = hV (condsV L) (reactV f L H) := rfl
    have ei : vI (condsV L) (reactV f L H) 0 = hI (condsV L) (reactV f L H) := rfl
    rw [ev] at g0
    rw [ei] at gi
    have hbl := bV_le (n := (condsV L).length) h4
    change Bd _ (hV (condsV L) (reactV f L H)) at b0
    change Bd _ (hI (condsV L) (reactV f L H)) at bi
    obtain ⟨v1, v2, v3, v4⟩ := b0
    obtain ⟨i1, i2, i3, i4⟩ := bi
    generalize hV (condsV L) (reactV f L H) = V at *
    generalize hI (condsV L) (reactV f L H) = I at *
    have hr1 : inR V.1 (-1073741824) 1073741824 = true := inR_iff.2 ⟨by omega, by omega⟩
    have hr2 : inR V.2 (-1073741824) 1073741824 = true := inR_iff.2 ⟨by omega, by omega⟩
    have hr3 : inR I.1 (-1073741824) 1073741824 = true := inR_iff.2 ⟨by omega, by omega⟩
    have hr4 : inR I.2 (-1073741824) 1073741824 = true := inR_iff.2 ⟨by omega, by omega⟩
    have n0 : 0 < (solV (condsV L) (reactV f L H)).1.length := by omega
    have n1 : 0 < (solV (condsV L) (reactV f L H)).2.length := by omega
    have n0' : (0 : Nat) ≤ 0 ∧ (0 : Int) < ((solV (condsV L) (reactV f L H)).1.length : Int) := ⟨by omega, by omega⟩
    have n1' : (0 : Nat) ≤ 0 ∧ (0 : Int) < ((solV (condsV L) (reactV f L H)).2.length : Int) := ⟨by omega, by omega⟩
    simp only [Option.isSome_some, Option.getD_some, implies_true, if_true, heq, g0, gi, p33, hr1, hr2, hr3, hr4, if_pos n0', if_pos n1', n0', n1']
    rw [if_pos (fun _ => by simp), if_pos (fun _ => by simp), if_pos (fun _ => by simp), if_pos (fun _ => by simp)]
    have q1 := prodB v1 v2 i1 i2
    have q2 := prodB v3 v4 i3 i4
    have q3 : (bV (condsV L).length).1 * (bV (condsV L).length).2 ≤ 283362561 * 8786960 := Int.mul_le_mul hbl.1 hbl.2 (bV_pos _).2 (by omega)
    rw [if_neg (by decide)]
    refine iter_run (powV (condsV L) (reactV f L H)).length _ (fun i => (((powV (condsV L) (reactV f L H)).take i).sum, (i : Int))) (some true) (by omega) (fun i hi => ?_) ?_
    · have g1 := p1 _ (getD_mem hi)
      have s1 := pre_succ (powV (condsV L) (reactV f L H)) i hi
      have s2 := pre_rng (powV (condsV L) (reactV f L H)) p1 (i + 1)
      have s2' := pre_rng (powV (condsV L) (reactV f L H)) p1 i
      simp only [b13_1, ltN hi, if_true, if_pos (rgN hi), Int.toNat_natCast, wS i (by omega), p33, bindC]
      rw [inR_iff.2 ⟨g1, by omega⟩, if_neg (by simp), wI (by omega) (by omega), s1]
      rfl
    · unfold b13_1
      rw [if_neg (by simp)]
      simp only [List.take_length, if_pos n0', if_pos n1', g0, gi]
      rw [wI (a := V.1 * I.1) (by omega) (by omega), wI (a := V.2 * I.2) (by omega) (by omega), ← hsum, wI (by omega) (by omega)]
      simp
end Go.Proofs.Ytagnplbfdaifkaa

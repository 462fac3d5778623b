/- Field: the code's and the reference's solutions. -/
import Derived.Test.YtagnplbfdaifkaaFieldC
set_option linter.unusedVariables false
set_option linter.unusedSimpArgs false
namespace Go.Proofs.Ytagnplbfdaifkaa
open Go.Abs

theorem rep_set {α : Type} (n : Nat) (a b : α) (l : List α) : (List.replicate (n + 1) a ++ l).set n b = List.replicate n a ++ b :: l := by
  induction n with
  | zero => rfl
  | succ n ih => rw [List.replicate_succ, List.cons_append, List.set_cons_succ, ih]; rfl
theorem rep_set0 {α : Type} (n : Nat) (a b : α) : (List.replicate (n + 1) a).set n b = List.replicate n a ++ [b] := by
  have := rep_set n a b []
  simpa using this
theorem rep_getD {α : Type} [Inhabited α] (n : Nat) (a b : α) (l : List α) : (List.replicate n a ++ b :: l).getD n default = b := by
  induction n with
  | zero => rfl
  | succ n ih => rw [List.replicate_succ, List.cons_append, List.getD_cons_succ, ih]
theorem head_cons {α : Type} (l : List α) (d : α) (h : l ≠ []) : ∃ t, l = l.headD d :: t := by
  cases l with
  | nil => exact absurd rfl h
  | cons x t => exact ⟨t, rfl⟩
/-- the part of the solution behind k nodes -/
def solP (cs xs : List Int) (k : Nat) : List (Int × Int) × List (Int × Int) := solV (cs.drop k) (xs.drop k)
variable {cs xs : List Int}
theorem solP_succ (h : Lad cs xs) {k : Nat} (hk : k < cs.length) :
    solP cs xs k = (volV (xs.getD k default) ((solP cs xs (k + 1)).1.headD (1, 0)) (curV (cs.getD k default) ((solP cs xs (k + 1)).1.headD (1, 0)) ((solP cs xs (k + 1)).2.headD (0, 0))) :: (solP cs xs (k + 1)).1,
      curV (cs.getD k default) ((solP cs xs (k + 1)).1.headD (1, 0)) ((solP cs xs (k + 1)).2.headD (0, 0)) :: (solP cs xs (k + 1)).2) := by
  have hx : k < xs.length := by rw [h.len]; exact hk
  unfold solP
  rw [List.drop_eq_getElem_cons hk, List.drop_eq_getElem_cons hx]
  simp only [solV]
  have e1 : cs.getD k default = cs[k] := by rw [List.getD_eq_getElem?_getD, List.getElem?_eq_getElem hk]; rfl
  have e2 : xs.getD k default = xs[k] := by rw [List.getD_eq_getElem?_getD, List.getElem?_eq_getElem hx]; rfl
  rw [e1, e2]
theorem solP_end (h : Lad cs xs) : solP cs xs cs.length = ([(1, 0)], []) := by
  unfold solP
  rw [List.drop_length, ← h.len, List.drop_length]; rfl
theorem solP_zero : solP cs xs 0 = solV cs xs := by simp [solP]
theorem solP_len (h : Lad cs xs) (k : Nat) (hk : k ≤ cs.length) : (solP cs xs k).1.length = cs.length - k + 1 ∧ (solP cs xs k).2.length = cs.length - k := by
  have := solV_len (cs.drop k) (xs.drop k) (h.drop k).len
  simpa [solP] using this
theorem solP_bd (h : Lad cs xs) (h4 : cs.length ≤ 4) {k : Nat} (hk : 1 ≤ k) : Bd 2179841 ((solP cs xs k).1.headD (1, 0)) ∧ Bd 67596 ((solP cs xs k).2.headD (0, 0)) := by
  obtain ⟨h1, h2⟩ := solV_bd (h.drop k)
  change Bd 2179841 ((solV (cs.drop k) (xs.drop k)).1.headD (1, 0)) ∧ Bd 67596 ((solV (cs.drop k) (xs.drop k)).2.headD (0, 0))
  have hl : (cs.drop k).length ≤ 3 := by simp; omega
  generalize (cs.drop k).length = m at *
  have : (bV m).1 ≤ 2179841 ∧ (bV m).2 ≤ 67596 := by
    match m, hl with
    | 0, _ => decide
    | 1, _ => decide
    | 2, _ => decide
    | 3, _ => decide
  obtain ⟨a1, a2, a3, a4⟩ := h1
  obtain ⟨b1, b2, b3, b4⟩ := h2
  exact ⟨⟨by omega, by omega, by omega, by omega⟩, ⟨by omega, by omega, by omega, by omega⟩⟩
/-- the loop's state, k nodes being left; amps and volts -/
def stA (cs xs : List Int) (k : Nat) : Int × Int × Int × List (Int × Int) × List (Int × Int) :=
  ((k : Int) - 1, ((solP cs xs k).2.headD (0, 0)).1, ((solP cs xs k).2.headD (0, 0)).2, List.replicate k (0, 0) ++ (solP cs xs k).2, List.replicate k (0, 0) ++ (solP cs xs k).1)
def stB (cs xs : List Int) (k : Nat) : Int × Int × Int × List (Int × Int) × List (Int × Int) :=
  ((k : Int) - 1, ((solP cs xs k).2.headD (0, 0)).1, ((solP cs xs k).2.headD (0, 0)).2, List.replicate k (0, 0) ++ (solP cs xs k).1, List.replicate k (0, 0) ++ (solP cs xs k).2)
theorem volt_get (h : Lad cs xs) {k : Nat} (hk : k ≤ cs.length) : (List.replicate k ((0 : Int), (0 : Int)) ++ (solP cs xs k).1).getD k default = (solP cs xs k).1.headD (1, 0) := by
  obtain ⟨t, ht⟩ := head_cons (solP cs xs k).1 (1, 0) (by intro e; have := (solP_len h k hk).1; rw [e] at this; simp at this)
  conv => lhs; rw [ht]
  rw [rep_getD]
theorem step84 (h : Lad cs xs) (h4 : cs.length ≤ 4) {k : Nat} (hk : k < cs.length) : b84_1 cs xs (stA cs xs (k + 1)) = .next (stA cs xs k) := by
  have hx : k < xs.length := by rw [h.len]; exact hk
  obtain ⟨hv, hi⟩ := solP_bd h h4 (show 1 ≤ k + 1 by omega)
  obtain ⟨l1, l2⟩ := solP_len h (k + 1) hk
  have e0 : ((k + 1 : Nat) : Int) - 1 = (k : Int) := by omega
  have e1 : IntKind.i64.wrap ((k : Int) + 1) = ((k + 1 : Nat) : Int) := by rw [wI (by omega) (by omega)]; rfl
  have e2 : IntKind.i64.wrap ((k : Int) - 1) = (k : Int) - 1 := wI (by omega) (by omega)
  have hn : (k + 1) + (solP cs xs (k + 1)).1.length = cs.length + 1 := by omega
  have hm : (k + 1) + (solP cs xs (k + 1)).2.length = cs.length := by omega
  simp only [b84_1, stA, e0, e1, e2, List.length_append, List.length_replicate, hn, hm]
  rw [if_pos (by simp), if_pos ⟨by omega, by omega⟩, if_pos ⟨by omega, by omega⟩]
  simp only [Int.toNat_natCast]
  rw [volt_get h hk, p116 hk hx (h.c _ (getD_mem hk)) (h.x _ (getD_mem hx)) hv hi]
  simp only [bindC]
  rw [if_pos ⟨by omega, by omega⟩, if_pos ⟨by omega, by omega⟩, if_pos ⟨by omega, by omega⟩, rep_set, rep_set, solP_succ h hk]
  rfl
theorem p84 (h : Lad cs xs) (h1 : 1 ≤ cs.length) (h4 : cs.length ≤ 4) : r84 cs xs = some (solV cs xs) := by
  have e1 : IntKind.i64.wrap ((cs.length : Int) + 1) = ((cs.length + 1 : Nat) : Int) := by rw [wI (by omega) (by omega)]; rfl
  have e2 : IntKind.i64.wrap ((cs.length : Int) - 1) = (cs.length : Int) - 1 := wI (by omega) (by omega)
  unfold r84
  simp only [e1, Int.toNat_natCast, e2]
  rw [if_pos ⟨by omega, by omega, by omega, by omega⟩, if_pos ⟨by omega, by omega, by omega, by omega⟩, if_pos ⟨by omega, by omega⟩, rep_set0]
  have key := iter_run cs.length (b84_1 cs xs) (fun j => stA cs xs (cs.length - j)) (some (solV cs xs)) (by omega) (fun j hj => by
    have := step84 h h4 (show cs.length - (j + 1) < cs.length by omega)
    rw [show cs.length - (j + 1) + 1 = cs.length - j by omega] at this
    exact this) (by
    show b84_1 cs xs (stA cs xs (cs.length - cs.length)) = _
    rw [Nat.sub_self]
    unfold b84_1
    rw [if_neg (by simp [stA])]
    simp only [stA, solP_zero]
    rfl)
  rw [Nat.sub_zero] at key
  rw [← key]
  unfold stA
  rw [solP_end h]
  simp
variable {T : Int} {L : List (Int × Int × Int)} {f : Int} {H : List Bool}
theorem Ok.ladr (ok : Ok T L f H) : Lad (condsV L) (reactV f L H) :=
  ⟨by rw [reactV_len f L H ok.hot, condsV_len], condsV_rng ok, reactV_rng ok⟩
theorem step56 (ok : Ok T L f H) {k : Nat} (hk : k < L.length) : b56_1 L (reactV f L H) (stB (condsV L) (reactV f L H) (k + 1)) = .next (stB (condsV L) (reactV f L H) k) := by
  have h := ok.ladr
  have h4 := ok.lad.le
  have hk' : k < (condsV L).length := by rw [condsV_len]; exact hk
  have hx : k < (reactV f L H).length := by rw [reactV_len f L H ok.hot]; exact hk
  obtain ⟨hv, hi⟩ := solP_bd h (by rw [condsV_len]; exact h4) (show 1 ≤ k + 1 by omega)
  obtain ⟨l1, l2⟩ := solP_len h (k + 1) hk'
  have hc := h.c _ (getD_mem hk')
  have hxx := h.x _ (getD_mem hx)
  have hsc := solP_succ h hk'
  have e0 : ((k + 1 : Nat) : Int) - 1 = (k : Int) := by omega
  have e1 : IntKind.i64.wrap ((k : Int) + 1) = ((k + 1 : Nat) : Int) := by rw [wI (by omega) (by omega)]; rfl
  have e2 : IntKind.i64.wrap ((k : Int) - 1) = (k : Int) - 1 := wI (by omega) (by omega)
  have hcl := condsV_len L
  have hn : (k + 1) + (solP (condsV L) (reactV f L H) (k + 1)).1.length = L.length + 1 := by omega
  have hm : (k + 1) + (solP (condsV L) (reactV f L H) (k + 1)).2.length = L.length := by omega
  simp only [b56_1, stB, e0, e1, e2, List.length_append, List.length_replicate, hn, hm]
  rw [if_pos (by simp), if_pos ⟨by omega, by omega⟩, if_pos (rgN hk)]
  simp only [Int.toNat_natCast]
  rw [volt_get h hk', hsc, ← condsV_get L k hk]
  generalize hvv : (solP (condsV L) (reactV f L H) (k + 1)).1.headD (1, 0) = v at *
  generalize hii : (solP (condsV L) (reactV f L H) (k + 1)).2.headD (0, 0) = i at *
  generalize hcc : (condsV L).getD k default = c at *
  generalize hxv : (reactV f L H).getD k default = x at *
  have hvb := hv
  have hib := hi
  obtain ⟨v1, v2, v3, v4⟩ := hv
  obtain ⟨i1, i2, i3, i4⟩ := hi
  have m1 := mulB (by omega) hc.2 v1 v2
  have m2 := mulB (by omega) hc.2 v3 v4
  obtain ⟨g1, g2, g3, g4⟩ := curV_bd (c := c) ⟨by omega, hc.2⟩ hvb hib
  have m3 := mulB (by omega) hxx.2 g1 g2
  have m4 := mulB (by omega) hxx.2 g3 g4
  simp only [r93, r34, r117, bindC, if_pos (rgN hx), curV, volV] at *
  rw [if_pos ⟨by omega, by omega⟩, if_pos ⟨by omega, by omega⟩]
  rw [wI (a := c * v.1) (by omega) (by omega), wI (a := c * v.2) (by omega) (by omega), wI (a := i.1 + c * v.1) (by omega) (by omega), wI (a := i.2 + c * v.2) (by omega) (by omega), wI (a := 0 - (i.2 + c * v.2)) (by omega) (by omega),
    wI (a := x * (i.1 + c * v.1)) (by omega) (by omega)]
  have e5 : x * (0 - (i.2 + c * v.2)) = -(x * (i.2 + c * v.2)) := by rw [Int.zero_sub, Int.mul_neg]
  rw [e5, wI (a := -(x * (i.2 + c * v.2))) (by omega) (by omega), wI (a := v.1 + -(x * (i.2 + c * v.2))) (by omega) (by omega), wI (a := v.2 + x * (i.1 + c * v.1)) (by omega) (by omega)]
  rw [if_pos ⟨by omega, by omega⟩, rep_set, rep_set]
  rfl
theorem p56 (ok : Ok T L f H) : r56 T L f H = some (solV (condsV L) (reactV f L H)) := by
  have h := ok.ladr
  have h4 := ok.lad.le
  have h1 := ok.lad.pos
  have hcl := condsV_len L
  have e1 : IntKind.i64.wrap ((L.length : Int) + 1) = ((L.length + 1 : Nat) : Int) := by rw [wI (by omega) (by omega)]; rfl
  have e2 : IntKind.i64.wrap ((L.length : Int) - 1) = (L.length : Int) - 1 := wI (by omega) (by omega)
  unfold r56
  rw [p31 ok, Option.bind_some]
  simp only [e1, Int.toNat_natCast, e2]
  rw [if_pos ⟨by omega, by omega, by omega, by omega⟩, if_pos ⟨by omega, by omega, by omega, by omega⟩, if_pos ⟨by omega, by omega⟩, rep_set0]
  have key := iter_run L.length (b56_1 L (reactV f L H)) (fun j => stB (condsV L) (reactV f L H) (L.length - j)) (some (solV (condsV L) (reactV f L H))) (by omega) (fun j hj => by
    have := step56 ok (show L.length - (j + 1) < L.length by omega)
    rw [show L.length - (j + 1) + 1 = L.length - j by omega] at this
    exact this) (by
    show b56_1 L (reactV f L H) (stB (condsV L) (reactV f L H) (L.length - L.length)) = _
    rw [Nat.sub_self]
    unfold b56_1
    rw [if_neg (by simp [stB])]
    simp only [stB, solP_zero]
    rfl)
  rw [Nat.sub_zero] at key
  rw [← key]
  unfold stB
  rw [← hcl, solP_end h, hcl]
  simp
end Go.Proofs.Ytagnplbfdaifkaa

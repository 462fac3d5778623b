/- Strings: a ladder formatted, by the program and by the reference. -/
import Derived.Test.YtkhfaooknmoboaaGreatDoorStrE
set_option linter.unusedVariables false
set_option linter.unusedSimpArgs false
namespace Go.Proofs.YtkhfaooknmoboaaGreatDoor
open Go.Abs

def In64 (n : Int) : Prop := -9223372036854775808 ≤ n ∧ n ≤ 9223372036854775807
def In3 (s : Int × Int × Int) : Prop := In64 s.1 ∧ In64 s.2.1 ∧ In64 s.2.2
def wds (s : Int × Int × Int) : List (List UInt8) := [Lib.itoa s.1, Lib.itoa s.2.1, Lib.itoa s.2.2]
def fmtL (T : Int) (L : List (Int × Int × Int)) : List UInt8 := jn 59 (Lib.itoa T :: L.map fun s => jn 32 (wds s))
theorem jn_len (c : UInt8) (B : Nat) : ∀ (l : List (List UInt8)), (∀ x ∈ l, x.length ≤ B) → (jn c l).length ≤ l.length * (B + 1)
  | [], _ => by simp [jn]
  | [x], h => by have := h x (by simp); simp [jn]; omega
  | x :: y :: r, h => by
    have h1 := h x (by simp)
    have h2 := jn_len c B (y :: r) (fun z hz => h z (List.mem_cons_of_mem _ hz))
    rw [jn, List.length_append, List.length_cons]
    have h3 : (x :: y :: r).length * (B + 1) = (y :: r).length * (B + 1) + (B + 1) := Nat.succ_mul _ _
    omega
theorem jn_snoc (c : UInt8) (y : List UInt8) : ∀ (l : List (List UInt8)), l ≠ [] → jn c (l ++ [y]) = jn c l ++ c :: y
  | [], h => absurd rfl h
  | [x], _ => by simp [jn]
  | x :: z :: r, _ => by
    have := jn_snoc c y (z :: r) (by simp)
    rw [List.cons_append, List.cons_append, jn, ← List.cons_append, this, jn]
    simp
theorem a22' {n : Int} (h : In64 n) : r22 n = some (lb (Lib.itoa n)) := a22 h.1 h.2
theorem a29 {n : Int} (h : In64 n) : r29 n = some (lb (Lib.itoa n)) := p29 h.1 h.2
theorem itoaLen {n : Int} (h : In64 n) : (Lib.itoa n).length ≤ 21 := itoa_len h.1 h.2
theorem a23 (l : List (List UInt8)) (c : UInt8) (h1 : l.length ≤ 100000) (h2 : (jn c l).length ≤ 1000000000) : r23 (l.map lb) ⟨#[c]⟩ = some (lb (jn c l)) := by
  have e : joinB (l.map lb) ⟨#[c]⟩ = lb (jn c l) := by
    rw [joinB_jn, List.map_map]
    have : (bl ∘ lb) = id := by funext x; rfl
    rw [this, List.map_id]
  show joinV (l.map lb) ⟨#[c]⟩ = _
  rw [joinV, e, if_pos ⟨by rw [List.length_map]; omega, by rw [size_lb]; omega⟩]
theorem wds_len {s : Int × Int × Int} (h : In3 s) : (jn 32 (wds s)).length ≤ 66 := by
  have := jn_len 32 21 (wds s) (fun x hx => by
    simp only [wds, List.mem_cons, List.not_mem_nil, or_false] at hx
    rcases hx with rfl | rfl | rfl
    · exact itoaLen h.1
    · exact itoaLen h.2.1
    · exact itoaLen h.2.2)
  exact this
theorem fmt_len {T : Int} {L : List (Int × Int × Int)} (hT : In64 T) (hL : ∀ s ∈ L, In3 s) : (fmtL T L).length ≤ (L.length + 1) * 67 := by
  have := jn_len 59 66 (Lib.itoa T :: L.map fun s => jn 32 (wds s)) (fun x hx => by
    rcases List.mem_cons.mp hx with rfl | hx
    · have := itoaLen hT; omega
    · obtain ⟨s, hs, rfl⟩ := List.mem_map.1 hx
      exact wds_len (hL s hs))
  rw [List.length_cons, List.length_map] at this
  exact this
theorem inner6 (L : List (Int × Int × Int)) (j : Nat) (o : List ByteArray) (h : In3 (L.getD j default)) (hj : (o.length + 1) * 16 ≤ 140737488355328 ∧ o.length + 1 ≤ 9223372036854775807) (hb : j < 1000000) :
    iterC (b6_2 L ((j : Int), o)) 1000000000 ([], 0) = some (.next (((j + 1 : Nat) : Int), o ++ [lb (jn 32 (wds (L.getD j default)))])) := by
  have h3 : iterC (b6_2 L ((j : Int), o)) 1000000000 (((wds (L.getD j default)).take 0).map lb, ((0 : Nat) : Int)) = some (.next (((j + 1 : Nat) : Int), o ++ [lb (jn 32 (wds (L.getD j default)))])) := by
    refine iter_run 3 (b6_2 L ((j : Int), o)) (fun i => (((wds (L.getD j default)).take i).map lb, (i : Int))) _ (by decide) (fun i hi => ?_) ?_
    · unfold b6_2
      simp only [Int.toNat_natCast]
      have hi' : i = 0 ∨ i = 1 ∨ i = 2 := by omega
      rcases hi' with rfl | rfl | rfl
      · rw [if_pos (by rfl), if_pos (by rfl), a22' h.1]
        simp only [bindC]
        rw [if_pos (by simp [wds])]; rfl
      · rw [if_pos (by rfl), if_neg (by simp), if_pos (by rfl), a22' h.2.1]
        simp only [bindC]
        rw [if_pos (by simp [wds])]; rfl
      · rw [if_pos (by rfl), if_neg (by simp), if_neg (by simp), if_pos (by rfl), a22' h.2.2]
        simp only [bindC]
        rw [if_pos (by simp [wds])]; rfl
    · unfold b6_2
      simp only
      rw [if_neg (by simp)]
      have hw : (wds (L.getD j default)).take 3 = wds (L.getD j default) := rfl
      rw [hw, a23 _ 32 (by simp [wds]) (by have := wds_len h; omega)]
      simp only [bindC]
      rw [if_pos hj, wI (by omega) (by omega)]; rfl
  exact h3
theorem getD_dflt {α : Type} [Inhabited α] {l : List α} {i : Nat} (h : i < l.length) : l.getD i default ∈ l := mem_getD h
theorem p6 (T : Int) (L : List (Int × Int × Int)) (hT : In64 T) (hL : ∀ s ∈ L, In3 s) (h6 : L.length ≤ 6) : r6 T L = some (lb (fmtL T L)) := by
  unfold r6
  rw [a22' hT, Option.bind_some]
  have h := iter_run L.length (b6_1 L) (fun i => ((i : Int), (Lib.itoa T :: (L.take i).map fun s => jn 32 (wds s)).map lb)) (some (lb (fmtL T L))) (by omega) (fun i hi => ?_) ?_
  · exact h
  · unfold b6_1
    simp only
    rw [if_pos (by simpa using hi), if_pos (by omega), inner6 L i _ (hL _ (getD_dflt hi)) (by simp; omega) (by omega), Option.getD_some, take_succ' L default hi]
    simp
  · unfold b6_1
    simp only
    rw [if_neg (by simp), List.take_length, a23 _ 59 (by simp; omega) (by have := fmt_len hT hL; rw [fmtL] at this; omega)]
    rfl
theorem p10 (T : Int) (L : List (Int × Int × Int)) (hT : In64 T) (hL : ∀ s ∈ L, In3 s) (h6 : L.length ≤ 6) : r10 T L = some (lb (fmtL T L)) := by
  unfold r10
  rw [a29 hT, Option.bind_some]
  have h := iter_run L.length (b10_1 L) (fun i => (lb (fmtL T (L.take i)), (i : Int))) (some (lb (fmtL T L))) (by omega) (fun i hi => ?_) ?_
  · exact h
  · have hs := hL _ (getD_dflt hi)
    have hl := fmt_len (T := T) (L := L.take i) hT (fun s hs => hL s (List.mem_of_mem_take hs))
    rw [List.length_take] at hl
    have l1 := itoaLen hs.1
    have l2 := itoaLen hs.2.1
    have l3 := itoaLen hs.2.2
    unfold b10_1
    simp only [Int.toNat_natCast]
    rw [a29 hs.1, a29 hs.2.1, a29 hs.2.2]
    simp only [bindC]
    have s1 : (#[59] : Array UInt8).size = 1 := rfl
    have s2 : (#[32] : Array UInt8).size = 1 := rfl
    simp only [s1, s2, size_lb]
    rw [if_pos (by simpa using hi), if_pos (by omega), if_pos (by omega), if_pos (by omega), if_pos (by omega), if_pos (by omega), if_pos (by omega), if_pos (by omega), if_pos (by omega), if_pos (by omega), wI (by omega) (by omega)]
    have e : fmtL T (L.take (i + 1)) = fmtL T (L.take i) ++ 59 :: (jn 32 (wds (L.getD i default))) := by
      rw [fmtL, take_succ' L default hi, List.map_append, ← List.cons_append, List.map_singleton, jn_snoc _ _ _ (by simp)]; rfl
    rw [e]
    simp only [ba_one, lb_app, wds, jn]
    simp
  · unfold b10_1
    simp only
    rw [if_neg (by simp), List.take_length]
theorem p11 (T : Int) (L : List (Int × Int × Int)) (hn : L.length < 1000000000) : r11 T L T L = some true := by
  unfold r11
  rw [if_neg (by simp)]
  refine iter_run L.length (b11_1 L L) (fun i => (i : Int)) (some true) hn (fun i hi => ?_) ?_
  · unfold b11_1
    rw [if_pos (by simpa using hi), if_pos (by omega), if_pos (by omega), if_neg (by simp), wI (by omega) (by omega)]; rfl
  · unfold b11_1
    rw [if_neg (by simp)]
theorem few5 (T : Int) (L : List (Int × Int × Int)) : r5 T L = some (decide ((L.length : Int) ≤ 6)) := rfl
theorem p7 (T : Int) (L : List (Int × Int × Int)) (h : L.length ≤ 6) : r7 T L = some (T, L) := by
  unfold r7
  rw [if_pos (by omega)]
end Go.Proofs.YtkhfaooknmoboaaGreatDoor

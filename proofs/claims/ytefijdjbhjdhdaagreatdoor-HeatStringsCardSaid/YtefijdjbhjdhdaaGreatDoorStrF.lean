/- Strings: a set-up formatted, by the program and by the reference. -/
import Derived.Test.YtefijdjbhjdhdaaGreatDoorStrE
import Derived.Test.YtefijdjbhjdhdaaGreatDoorF01
import Derived.Test.YtefijdjbhjdhdaaGreatDoorF02
import Derived.Test.YtefijdjbhjdhdaaGreatDoorF04
set_option linter.unusedVariables false
set_option linter.unusedSimpArgs false
namespace Go.Proofs.YtefijdjbhjdhdaaGreatDoor
open Go.Abs

def In64 (n : Int) : Prop := -9223372036854775808 ≤ n ∧ n ≤ 9223372036854775807
def In2 (p : Int × Int) : Prop := In64 p.1 ∧ In64 p.2
def pair (p : Int × Int) : List UInt8 := jn 32 [Lib.itoa p.1, Lib.itoa p.2]
def prs (l : PL) : List UInt8 := jn 44 (l.map pair)
def fmtS (a b : Int) (T : PL) (L : List PL) : List UInt8 := jn 59 (pair (a, b) :: prs T :: L.map prs)
theorem jn_len (c : UInt8) (B : Nat) : ∀ (l : List (List UInt8)), (∀ x ∈ l, x.length ≤ B) → (jn c l).length ≤ l.length * (B + 1)
  | [], _ => by simp [jn]
  | [x], h => by have := h x (by simp); simp [jn]; omega
  | x :: y :: r, h => by
    have h1 := h x (by simp)
    have h2 := jn_len c B (y :: r) (fun z hz => h z (List.mem_cons_of_mem _ hz))
    rw [jn, List.length_append, List.length_cons]
    have h3 : (x :: y :: r).length * (B + 1) = (y :: r).length * (B + 1) + (B + 1) := Nat.succ_mul _ _
    omega
theorem jn_snoc (c : UInt8) (y : List UInt8) : ∀ (l : List (List UInt8)), l ≠ [] → jn c (l ++ [y]) = jn c l ++ c :: y
  | [], h => absurd rfl h
  | [x], _ => by simp [jn]
  | x :: z :: r, _ => by
    have := jn_snoc c y (z :: r) (by simp)
    rw [List.cons_append, List.cons_append, jn, ← List.cons_append, this, jn]
    simp
theorem a22' {n : Int} (h : In64 n) : r22 n = some (lb (Lib.itoa n)) := a22 h.1 h.2
theorem a35 {n : Int} (h : In64 n) : r35 n = some (lb (Lib.itoa n)) := p29 h.1 h.2
theorem itoaLen {n : Int} (h : In64 n) : (Lib.itoa n).length ≤ 21 := itoa_len h.1 h.2
theorem a26 (l : List (List UInt8)) (c : UInt8) (h1 : l.length ≤ 100000) (h2 : (jn c l).length ≤ 1000000000) : r26 (l.map lb) ⟨#[c]⟩ = some (lb (jn c l)) := by
  have e : joinB (l.map lb) ⟨#[c]⟩ = lb (jn c l) := by
    rw [joinB_jn, List.map_map]
    have : (bl ∘ lb) = id := by funext x; rfl
    rw [this, List.map_id]
  show joinV (l.map lb) ⟨#[c]⟩ = _
  rw [joinV, e, if_pos ⟨by rw [List.length_map]; omega, by rw [size_lb]; omega⟩]
theorem pair_eq (p : Int × Int) : pair p = Lib.itoa p.1 ++ 32 :: Lib.itoa p.2 := by simp [pair, jn]
theorem pair_len {p : Int × Int} (h : In2 p) : (pair p).length ≤ 44 := by
  have h1 := itoaLen h.1
  have h2 := itoaLen h.2
  rw [pair_eq, List.length_append, List.length_cons]; omega
theorem prs_len2 {l : PL} (h : ∀ p ∈ l, In2 p) : (prs l).length ≤ l.length * 45 := by
  have := jn_len 44 44 (l.map pair) (fun x hx => by
    obtain ⟨s, hs, rfl⟩ := List.mem_map.1 hx
    exact pair_len (h s hs))
  rwa [List.length_map] at this
theorem fmt_len {a b : Int} {T : PL} {L : List PL} (ha : In64 a) (hb : In64 b) (hT : ∀ p ∈ T, In2 p) (hT10 : T.length ≤ 10) (hL : ∀ l ∈ L, l.length ≤ 10 ∧ ∀ p ∈ l, In2 p) : (fmtS a b T L).length ≤ (L.length + 2) * 451 := by
  have := jn_len 59 450 (pair (a, b) :: prs T :: L.map prs) (fun x hx => by
    rcases List.mem_cons.mp hx with rfl | hx
    · have := pair_len (p := (a, b)) ⟨ha, hb⟩; omega
    rcases List.mem_cons.mp hx with rfl | hx
    · have := prs_len2 hT; omega
    · obtain ⟨s, hs, rfl⟩ := List.mem_map.1 hx
      have := prs_len2 (hL s hs).2
      have := (hL s hs).1; omega)
  rw [List.length_cons, List.length_cons, List.length_map] at this
  exact this
theorem getD_dflt {α : Type} [Inhabited α] {l : List α} {i : Nat} (h : i < l.length) : l.getD i default ∈ l := mem_getD h
theorem p23 (l : PL) (hl : l.length ≤ 10) (h : ∀ p ∈ l, In2 p) : r23 l = some (lb (prs l)) := by
  unfold r23
  have := iter_run l.length (b23_1 l) (fun i => (((l.take i).map pair).map lb, (i : Int))) (some (lb (prs l))) (by omega) (fun i hi => ?_) ?_
  · exact this
  · have hp := h _ (getD_dflt hi)
    have l1 := itoaLen hp.1
    have l2 := itoaLen hp.2
    have s1 : (#[32] : Array UInt8).size = 1 := rfl
    unfold b23_1
    simp only [Int.toNat_natCast]
    rw [a22' hp.1, a22' hp.2]
    simp only [bindC, size_lb, s1]
    rw [if_pos (by simpa using hi), if_pos (by omega), if_pos (by omega), if_pos (by omega), if_pos (by rw [List.length_map, List.length_map, List.length_take]; omega), wI (by omega) (by omega), take_succ' l default hi]
    simp only [ba_one, lb_app, List.map_append, List.map_cons, List.map_nil, pair_eq]
    simp
  · unfold b23_1
    simp only
    have := prs_len2 h
    rw [if_neg (by simp), List.take_length, a26 _ 44 (by rw [List.length_map]; omega) (by show (prs l).length ≤ _; omega)]; rfl
theorem p36 (l : PL) (hl : l.length ≤ 10) (h : ∀ p ∈ l, In2 p) : r36 l = some (lb (prs l)) := by
  unfold r36
  have := iter_run l.length (b36_1 l) (fun i => (lb (prs (l.take i)), (i : Int))) (some (lb (prs l))) (by omega) (fun i hi => ?_) ?_
  · exact this
  · have hp := h _ (getD_dflt hi)
    have l1 := itoaLen hp.1
    have l2 := itoaLen hp.2
    have hl' := prs_len2 (l := l.take i) (fun p hp => h p (List.mem_of_mem_take hp))
    rw [List.length_take] at hl'
    have s1 : (#[32] : Array UInt8).size = 1 := rfl
    have s2 : (#[44] : Array UInt8).size = 1 := rfl
    unfold b36_1
    simp only [Int.toNat_natCast]
    rw [a35 hp.1, a35 hp.2]
    simp only [bindC, size_lb, s1, s2]
    rw [if_pos (by simpa using hi)]
    by_cases h0 : i = 0
    · subst h0
      rw [if_neg (by simp), if_pos (by omega), if_pos (by omega), if_pos (by omega), if_pos (by omega), if_pos (by omega), wI (by omega) (by omega), take_succ' l default hi]
      simp only [ba_one, lb_app, List.take_zero, prs, List.map_nil, List.nil_append, List.map_cons, jn, pair_eq]
      simp
    · rw [if_pos (by simp; omega), if_pos (by omega), if_pos (by omega), if_pos (by omega), if_pos (by omega), if_pos (by omega), if_pos (by omega), wI (by omega) (by omega), take_succ' l default hi]
      have e : prs (l.take i ++ [l.getD i default]) = prs (l.take i) ++ 44 :: pair (l.getD i default) := by
        unfold prs
        rw [List.map_append, List.map_singleton, jn_snoc]
        intro hx
        have := congrArg List.length hx
        rw [List.length_map, List.length_take, List.length_nil] at this
        omega
      rw [e, pair_eq]
      simp only [ba_one, lb_app]
      simp
  · unfold b36_1
    simp only
    rw [if_neg (by simp), List.take_length]
theorem p6 (a b : Int) (T : PL) (L : List PL) (ha : In64 a) (hb : In64 b) (hT : ∀ p ∈ T, In2 p) (hT10 : T.length ≤ 10) (h6 : L.length ≤ 6) (hL : ∀ l ∈ L, l.length ≤ 10 ∧ ∀ p ∈ l, In2 p) : r6 a b T L = some (lb (fmtS a b T L)) := by
  unfold r6
  have l1 := itoaLen ha
  have l2 := itoaLen hb
  have s1 : (#[32] : Array UInt8).size = 1 := rfl
  rw [a22' ha, a22' hb, p150 T (by omega)]
  simp only [Option.bind_some]
  rw [p23 T hT10 hT]
  simp only [Option.bind_some, size_lb, s1]
  rw [if_pos (by omega), if_pos (by omega)]
  have h := iter_run L.length (b6_1 L) (fun i => ((i : Int), (pair (a, b) :: prs T :: (L.take i).map prs).map lb)) (some (lb (fmtS a b T L))) (by omega) (fun i hi => ?_) ?_
  · have e : ([lb (Lib.itoa a) ++ ⟨#[32]⟩ ++ lb (Lib.itoa b), lb (prs T)] : List ByteArray) = (pair (a, b) :: prs T :: (L.take 0).map prs).map lb := by
      simp only [ba_one, lb_app, pair_eq]; simp
    rw [e]; exact h
  · have hs := hL _ (getD_dflt hi)
    unfold b6_1
    simp only [Int.toNat_natCast]
    rw [p148 _ (by omega)]
    simp only [bindC]
    rw [p23 _ hs.1 hs.2]
    simp only [bindC]
    rw [if_pos (by simpa using hi), if_pos (by omega), if_pos (by simp; omega), wI (by omega) (by omega), take_succ' L default hi]
    simp
  · unfold b6_1
    simp only
    have := fmt_len ha hb hT hT10 hL
    rw [if_neg (by simp), List.take_length, a26 _ 59 (by simp; omega) (by show (fmtS a b T L).length ≤ _; omega)]; rfl
theorem in10_3 (L : List PL) (i : Nat) (w : List UInt8) (hi : i < L.length) (hw : w.length ≤ 10000) (h6 : L.length ≤ 6) (hs : (L.getD i default).length ≤ 10 ∧ ∀ p ∈ L.getD i default, In2 p) :
    iterC (b10_3 L (lb w, (i : Int))) 1000000000 ([], 0) = some (.next (lb (w ++ 59 :: prs (L.getD i default)), ((i + 1 : Nat) : Int))) := by
  generalize hx : L.getD i default = x at hs
  have h := iter_run x.length (b10_3 L (lb w, (i : Int))) (fun j => (x.take j, (j : Int))) (some (.next (lb (w ++ 59 :: prs x), ((i + 1 : Nat) : Int)))) (by omega) (fun j hj => ?_) ?_
  · exact h
  · unfold b10_3
    simp only [Int.toNat_natCast, hx]
    rw [if_pos (by omega), if_pos (by simpa using hj), if_pos (by omega), if_pos (by omega), if_pos (by omega), if_pos (by omega), if_pos (by rw [List.length_take]; omega), wI (by omega) (by omega), take_succ' x default hj]; rfl
  · unfold b10_3
    simp only [Int.toNat_natCast, hx]
    have s1 : (#[59] : Array UInt8).size = 1 := rfl
    have := prs_len2 hs.2
    rw [List.take_length, p36 x hs.1 hs.2]
    simp only [bindC, size_lb, s1]
    rw [if_pos (by omega), if_neg (by simp), if_pos (by omega), if_pos (by omega), wI (by omega) (by omega)]
    simp only [ba_one, lb_app]
    simp
theorem p10 (a b : Int) (T : PL) (L : List PL) (ha : In64 a) (hb : In64 b) (hT : ∀ p ∈ T, In2 p) (hT10 : T.length ≤ 10) (h6 : L.length ≤ 6) (hL : ∀ l ∈ L, l.length ≤ 10 ∧ ∀ p ∈ l, In2 p) : r10 a b T L = some (lb (fmtS a b T L)) := by
  unfold r10
  have h := iter_run T.length (b10_1 a b T L) (fun i => (T.take i, (i : Int))) (some (lb (fmtS a b T L))) (by omega) (fun i hi => ?_) ?_
  · exact h
  · unfold b10_1
    simp only [Int.toNat_natCast]
    rw [if_pos (by simpa using hi), if_pos (by omega), if_pos (by omega), if_pos (by rw [List.length_take]; omega), wI (by omega) (by omega), take_succ' T default hi]; rfl
  · unfold b10_1
    simp only
    have l1 := itoaLen ha
    have l2 := itoaLen hb
    have s1 : (#[32] : Array UInt8).size = 1 := rfl
    have s2 : (#[59] : Array UInt8).size = 1 := rfl
    have l3 := prs_len2 hT
    rw [if_neg (by simp), List.take_length, a35 ha, a35 hb, p36 T hT10 hT]
    congr 1
    rw [Option.bind_some, if_pos (by rw [size_lb, s1]; omega), Option.bind_some, if_pos (by rw [size_lb, size_lb, s1]; omega), if_pos (by rw [size_lb, size_lb, s1, s2]; omega), Option.bind_some, if_pos (by rw [size_lb, size_lb, size_lb, s1, s2]; omega)]
    have h2 := iter_run L.length (b10_2 L) (fun i => (lb (fmtS a b T (L.take i)), (i : Int))) (some (lb (fmtS a b T L))) (by omega) (fun i hi => ?_) ?_
    · have e : lb (Lib.itoa a) ++ ⟨#[32]⟩ ++ lb (Lib.itoa b) ++ ⟨#[59]⟩ ++ lb (prs T) = lb (fmtS a b T (L.take 0)) := by
        simp only [ba_one, lb_app, fmtS, jn, List.take_zero, List.map_nil, pair_eq]; simp
      rw [e]; exact h2
    · have hs := hL _ (getD_dflt hi)
      have hl := fmt_len (L := L.take i) ha hb hT hT10 (fun l hl => hL l (List.mem_of_mem_take hl))
      rw [List.length_take] at hl
      unfold b10_2
      simp only
      rw [if_pos (by simpa using hi), in10_3 L i _ hi (by omega) h6 hs, Option.getD_some, take_succ' L default hi]
      have e : fmtS a b T (L.take i ++ [L.getD i default]) = fmtS a b T (L.take i) ++ 59 :: prs (L.getD i default) := by
        unfold fmtS
        rw [List.map_append, List.map_singleton, ← List.cons_append, ← List.cons_append, jn_snoc _ _ _ (by simp)]
      rw [e]
    · unfold b10_2
      simp only
      rw [if_neg (by simp), List.take_length]
theorem in11_3 (L : List PL) (i : Nat) (hi : i < L.length) (hn : L.length < 100000) (hx : (L.getD i default).length < 100000) : iterC (b11_3 L L (i : Int)) 1000000000 0 = some (.next ((i + 1 : Nat) : Int)) := by
  generalize hx' : L.getD i default = x at hx
  have h := iter_run x.length (b11_3 L L (i : Int)) (fun j => (j : Int)) (some (.next ((i + 1 : Nat) : Int))) (by omega) (fun j hj => ?_) ?_
  · exact h
  · unfold b11_3
    simp only [Int.toNat_natCast, hx']
    rw [if_pos (by omega), if_pos (by simpa using hj), if_pos (by omega), if_pos (by omega), if_pos (by omega), if_pos (by omega), if_neg (by simp), wI (by omega) (by omega)]; rfl
  · unfold b11_3
    simp only [Int.toNat_natCast, hx']
    rw [if_pos (by omega), if_neg (by simp), wI (by omega) (by omega)]; rfl
theorem p11 (a b : Int) (T : PL) (L : List PL) (hT : T.length < 100000) (hn : L.length < 100000) (hL : ∀ x ∈ L, x.length < 100000) : r11 a b T L a b T L = some true := by
  unfold r11
  rw [if_neg (by simp)]
  refine iter_run T.length (b11_1 T L T L) (fun i => (i : Int)) (some true) (by omega) (fun i hi => ?_) ?_
  · unfold b11_1
    rw [if_pos (by simpa using hi), if_pos (by omega), if_pos (by omega), if_neg (by simp), wI (by omega) (by omega)]; rfl
  · unfold b11_1
    rw [if_neg (by simp)]
    congr 1
    refine iter_run L.length (b11_2 L L) (fun i => (i : Int)) (some true) (by omega) (fun i hi => ?_) ?_
    · unfold b11_2
      rw [if_pos (by simpa using hi), if_pos (by omega), if_pos (by omega), if_neg (by simp), in11_3 L i hi hn (hL _ (getD_dflt hi))]; rfl
    · unfold b11_2
      rw [if_neg (by simp)]
end Go.Proofs.YtefijdjbhjdhdaaGreatDoor

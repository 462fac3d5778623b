/- Strings: a set-up formatted, by the program and by the reference. -/
import Derived.Test.YthldpejmofhaoaaGreatDoorF05
import Derived.Test.YthldpejmofhaoaaGreatDoorStrE
set_option linter.unusedVariables false
set_option linter.unusedSimpArgs false
namespace Go.Proofs.YthldpejmofhaoaaGreatDoor
open Go.Abs

def In64 (n : Int) : Prop := -9223372036854775808 ≤ n ∧ n ≤ 9223372036854775807
def In2 (p : Int × Int) : Prop := In64 p.1 ∧ In64 p.2
def pair (p : Int × Int) : List UInt8 := jn 32 [Lib.itoa p.1, Lib.itoa p.2]
def prs (l : PL) : List UInt8 := jn 44 (l.map pair)
def fmtS (a b : Int) (T : PL) (L : List PL) : List UInt8 := jn 59 (pair (a, b) :: prs T :: L.map prs)
theorem jn_len (c : UInt8) (B : Nat) : ∀ (l : List (List UInt8)), (∀ x ∈ l, x.length ≤ B) → (jn c l).length ≤ l.length * (B + 1)
  | [], _ => by simp [jn]
  | [x], h => by have := h x (by simp); simp [jn]; omega
  | x :: y :: r, h => by
    have h1 := h x (by simp)
    have h2 := jn_len c B (y :: r) (fun z hz => h z (List.mem_cons_of_mem _ hz))
    rw [jn, List.length_append, List.length_cons]
    have h3 : (x :: y :: r).length * (B + 1) = (y :: r).length * (B + 1) + (B + 1) := Nat.succ_mul _ _
    omega
theorem jn_snoc (c : UInt8) (y : List UInt8) : ∀ (l : List (List UInt8)), l ≠ [] → jn c (l ++ [y]) = jn c l ++ c :: y
  | [], h => absurd rfl h
  | [x], _ => by simp [jn]
  | x :: z :: r, _ => by
    have := jn_snoc c y (z :: r) (by simp)
    rw [List.cons_append, List.cons_append, jn, ← List.cons_append, this, jn]
    simp
theorem a22' {n : Int} (h : In64 n) : r73 n = some (lb (Lib.itoa n)) := a22 h.1 h.2
theorem itoaLen {n : Int} (h : In64 n) : (Lib.itoa n).length ≤ 21 := itoa_len h.1 h.2
theorem a26 (l : List (List UInt8)) (c : UInt8) (h1 : l.length ≤ 100000) (h2 : (jn c l).length ≤ 1000000000) : r77 (l.map lb) ⟨#[c]⟩ = some (lb (jn c l)) := by
  have e : joinB (l.map lb) ⟨#[c]⟩ = lb (jn c l) := by
    rw [joinB_jn, List.map_map]
    have : (bl ∘ lb) = id := by funext x; rfl
    rw [this, List.map_id]
  show joinV (l.map lb) ⟨#[c]⟩ = _
  rw [joinV, e, if_pos ⟨by rw [List.length_map]; omega, by rw [size_lb]; omega⟩]
theorem pair_eq (p : Int × Int) : pair p = Lib.itoa p.1 ++ 32 :: Lib.itoa p.2 := by simp [pair, jn]
theorem pair_len {p : Int × Int} (h : In2 p) : (pair p).length ≤ 44 := by
  have h1 := itoaLen h.1
  have h2 := itoaLen h.2
  rw [pair_eq, List.length_append, List.length_cons]; omega
theorem prs_len2 {l : PL} (h : ∀ p ∈ l, In2 p) : (prs l).length ≤ l.length * 45 := by
  have := jn_len 44 44 (l.map pair) (fun x hx => by
    obtain ⟨s, hs, rfl⟩ := List.mem_map.1 hx
    exact pair_len (h s hs))
  rwa [List.length_map] at this
theorem fmt_len {a b : Int} {T : PL} {L : List PL} (ha : In64 a) (hb : In64 b) (hT : ∀ p ∈ T, In2 p) (hT10 : T.length ≤ 10) (hL : ∀ l ∈ L, l.length ≤ 10 ∧ ∀ p ∈ l, In2 p) : (fmtS a b T L).length ≤ (L.length + 2) * 451 := by
  have := jn_len 59 450 (pair (a, b) :: prs T :: L.map prs) (fun x hx => by
    rcases List.mem_cons.mp hx with rfl | hx
    · have := pair_len (p := (a, b)) ⟨ha, hb⟩; omega
    rcases List.mem_cons.mp hx with rfl | hx
    · have := prs_len2 hT; omega
    · obtain ⟨s, hs, rfl⟩ := List.mem_map.1 hx
      have := prs_len2 (hL s hs).2
      have := (hL s hs).1; omega)
  rw [List.length_cons, List.length_cons, List.length_map] at this
  exact this
theorem getD_dflt {α : Type} [Inhabited α] {l : List α} {i : Nat} (h : i < l.length) : l.getD i default ∈ l := mem_getDs h
theorem p23 (l : PL) (hl : l.length ≤ 10) (h : ∀ p ∈ l, In2 p) : r74 l = some (lb (prs l)) := by
  unfold r74
  have := iter_run l.length (b74_1 l) (fun i => (((l.take i).map pair).map lb, (i : Int))) (some (lb (prs l))) (by omega) (fun i hi => ?_) ?_
  · exact this
  · have hp := h _ (getD_dflt hi)
    have l1 := itoaLen hp.1
    have l2 := itoaLen hp.2
    have s1 : (#[32] : Array UInt8).size = 1 := rfl
    unfold b74_1
    simp only [Int.toNat_natCast]
    rw [a22' hp.1, a22' hp.2]
    simp only [bindC, size_lb, s1]
    rw [if_pos (by simpa using hi), if_pos (by omega), if_pos (by omega), if_pos (by omega), if_pos (by rw [List.length_map, List.length_map, List.length_take]; omega), wI (by omega) (by omega), take_succ' l default hi]
    simp only [ba_one, lb_app, List.map_append, List.map_cons, List.map_nil, pair_eq]
    simp
  · unfold b74_1
    simp only
    have := prs_len2 h
    rw [if_neg (by simp), List.take_length, a26 _ 44 (by rw [List.length_map]; omega) (by show (prs l).length ≤ _; omega)]; rfl
theorem p6 (a b : Int) (T : PL) (L : List PL) (ha : In64 a) (hb : In64 b) (hT : ∀ p ∈ T, In2 p) (hT10 : T.length ≤ 10) (h6 : L.length ≤ 6) (hL : ∀ l ∈ L, l.length ≤ 10 ∧ ∀ p ∈ l, In2 p) : r13 a b T L = some (lb (fmtS a b T L)) := by
  unfold r13
  have l1 := itoaLen ha
  have l2 := itoaLen hb
  have s1 : (#[32] : Array UInt8).size = 1 := rfl
  rw [a22' ha, a22' hb, p150 T (by omega)]
  simp only [Option.bind_some]
  rw [p23 T hT10 hT]
  simp only [Option.bind_some, size_lb, s1]
  rw [if_pos (by omega), if_pos (by omega)]
  have h := iter_run L.length (b13_1 L) (fun i => ((i : Int), (pair (a, b) :: prs T :: (L.take i).map prs).map lb)) (some (lb (fmtS a b T L))) (by omega) (fun i hi => ?_) ?_
  · have e : ([lb (Lib.itoa a) ++ ⟨#[32]⟩ ++ lb (Lib.itoa b), lb (prs T)] : List ByteArray) = (pair (a, b) :: prs T :: (L.take 0).map prs).map lb := by
      simp only [ba_one, lb_app, pair_eq]; simp
    rw [e]; exact h
  · have hs := hL _ (getD_dflt hi)
    unfold b13_1
    simp only [Int.toNat_natCast]
    rw [p148 _ (by omega)]
    simp only [bindC]
    rw [p23 _ hs.1 hs.2]
    simp only [bindC]
    rw [if_pos (by simpa using hi), if_pos (by omega), if_pos (by simp; omega), wI (by omega) (by omega), take_succ' L default hi]
    simp
  · unfold b13_1
    simp only
    have := fmt_len ha hb hT hT10 hL
    rw [if_neg (by simp), List.take_length, a26 _ 59 (by simp; omega) (by show (fmtS a b T L).length ≤ _; omega)]; rfl
theorem in11_3 (L : List PL) (i : Nat) (hi : i < L.length) (hn : L.length < 100000) (hx : (L.getD i default).length < 100000) : iterC (b15_3 L L (i : Int)) 1000000000 0 = some (.next ((i + 1 : Nat) : Int)) := by
  generalize hx' : L.getD i default = x at hx
  have h := iter_run x.length (b15_3 L L (i : Int)) (fun j => (j : Int)) (some (.next ((i + 1 : Nat) : Int))) (by omega) (fun j hj => ?_) ?_
  · exact h
  · unfold b15_3
    simp only [Int.toNat_natCast, hx']
    rw [if_pos (by omega), if_pos (by simpa using hj), if_pos (by omega), if_pos (by omega), if_pos (by omega), if_pos (by omega), if_neg (by simp), wI (by omega) (by omega)]; rfl
  · unfold b15_3
    simp only [Int.toNat_natCast, hx']
    rw [if_pos (by omega), if_neg (by simp), wI (by omega) (by omega)]; rfl
theorem p11 (a b : Int) (T : PL) (L : List PL) (hT : T.length < 100000) (hn : L.length < 100000) (hL : ∀ x ∈ L, x.length < 100000) : r15 a b T L a b T L = some true := by
  unfold r15
  rw [if_neg (by simp)]
  refine iter_run T.length (b15_1 T L T L) (fun i => (i : Int)) (some true) (by omega) (fun i hi => ?_) ?_
  · unfold b15_1
    rw [if_pos (by simpa using hi), if_pos (by omega), if_pos (by omega), if_neg (by simp), wI (by omega) (by omega)]; rfl
  · unfold b15_1
    rw [if_neg (by simp)]
    congr 1
    refine iter_run L.length (b15_2 L L) (fun i => (i : Int)) (some true) (by omega) (fun i hi => ?_) ?_
    · unfold b15_2
      rw [if_pos (by simpa using hi), if_pos (by omega), if_pos (by omega), if_neg (by simp), in11_3 L i hi hn (hL _ (getD_dflt hi))]; rfl
    · unfold b15_2
      rw [if_neg (by simp)]
end Go.Proofs.YthldpejmofhaoaaGreatDoor

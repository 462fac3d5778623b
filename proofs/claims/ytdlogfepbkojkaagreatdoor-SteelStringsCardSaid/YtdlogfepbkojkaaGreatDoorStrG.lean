/- Strings: rules and states formatted, by the program and by the reference. -/
import Derived.Test.YtdlogfepbkojkaaGreatDoorStrF
set_option linter.unusedVariables false
set_option linter.unusedSimpArgs false
namespace Go.Proofs.YtdlogfepbkojkaaGreatDoor
open Go.Abs

def In64 (n : Int) : Prop := -9223372036854775808 ≤ n ∧ n ≤ 9223372036854775807
def InK (k : List Int) : Prop := k.length ≤ 7 ∧ ∀ n ∈ k, In64 n
def wjn (k : List Int) : List UInt8 := jn 32 (k.map Lib.itoa)
def fmtK (L : List (List Int)) : List UInt8 := jn 59 (L.map wjn)
def i4 (x : Int × Int × Int × Int) : List Int := [x.1, x.2.1, x.2.2.1, x.2.2.2]
def i5 (x : Int × Int × Int × Int × Int) : List Int := [x.1, x.2.1, x.2.2.1, x.2.2.2.1, x.2.2.2.2]
def i3 (x : Int × Int × Int) : List Int := [x.1, x.2.1, x.2.2]
def i2 (x : Int × Int) : List Int := [x.1, x.2]
def fmtR (H : List (Int × Int × Int × Int)) (C : List (Int × Int × Int × Int × Int)) (Q : List (Int × Int × Int)) (T : List (Int × Int)) (a b c d : Int) : List UInt8 :=
  jn 47 [fmtK (H.map i4), fmtK (C.map i5), fmtK (Q.map i3), fmtK (T.map i2), wjn [a, b, c, d]]
theorem jn_len (c : UInt8) (B : Nat) : ∀ (l : List (List UInt8)), (∀ x ∈ l, x.length ≤ B) → (jn c l).length ≤ l.length * (B + 1)
  | [], _ => by simp [jn]
  | [x], h => by have := h x (by simp); simp [jn]; omega
  | x :: y :: r, h => by
    have h1 := h x (by simp)
    have h2 := jn_len c B (y :: r) (fun z hz => h z (List.mem_cons_of_mem _ hz))
    rw [jn, List.length_append, List.length_cons]
    have h3 : (x :: y :: r).length * (B + 1) = (y :: r).length * (B + 1) + (B + 1) := Nat.succ_mul _ _
    omega
theorem jn_snoc (c : UInt8) (y : List UInt8) : ∀ (l : List (List UInt8)), l ≠ [] → jn c (l ++ [y]) = jn c l ++ c :: y
  | [], h => absurd rfl h
  | [x], _ => by simp [jn]
  | x :: z :: r, _ => by
    have := jn_snoc c y (z :: r) (by simp)
    rw [List.cons_append, List.cons_append, jn, ← List.cons_append, this, jn]
    simp
theorem a59 {n : Int} (h : In64 n) : r59 n = some (lb (Lib.itoa n)) := a22 h.1 h.2
theorem a70' {n : Int} (h : In64 n) : r70 n = some (lb (Lib.itoa n)) := s70 h.1 h.2
theorem itoaLen {n : Int} (h : In64 n) : (Lib.itoa n).length ≤ 21 := itoa_len h.1 h.2
theorem a26 (l : List (List UInt8)) (c : UInt8) (h1 : l.length ≤ 100000) (h2 : (jn c l).length ≤ 1000000000) : r26 (l.map lb) ⟨#[c]⟩ = some (lb (jn c l)) := by
  have e : joinB (l.map lb) ⟨#[c]⟩ = lb (jn c l) := by
    rw [joinB_jn, List.map_map]
    have : (bl ∘ lb) = id := by funext x; rfl
    rw [this, List.map_id]
  show joinV (l.map lb) ⟨#[c]⟩ = _
  rw [joinV, e, if_pos ⟨by rw [List.length_map]; omega, by rw [size_lb]; omega⟩]
theorem wjn_len {k : List Int} (h : InK k) : (wjn k).length ≤ 154 := by
  have := jn_len 32 21 (k.map Lib.itoa) (fun x hx => by
    obtain ⟨n, hn, rfl⟩ := List.mem_map.1 hx
    exact itoaLen (h.2 n hn))
  rw [List.length_map] at this
  have h7 := h.1
  have : k.length * (21 + 1) ≤ 7 * 22 := Nat.mul_le_mul_right _ h7
  unfold wjn
  omega
theorem fmtK_len {L : List (List Int)} (h : ∀ k ∈ L, InK k) : (fmtK L).length ≤ L.length * 155 := by
  have := jn_len 59 154 (L.map wjn) (fun x hx => by
    obtain ⟨k, hk, rfl⟩ := List.mem_map.1 hx
    exact wjn_len (h k hk))
  rwa [List.length_map] at this
theorem getD_mp {α β : Type} [Inhabited α] [Inhabited β] (f : α → β) {l : List α} {i : Nat} (h : i < l.length) : (l.map f).getD i default = f (l.getD i default) := by
  rw [List.getD_eq_getElem?_getD, List.getElem?_map, List.getElem?_eq_getElem h, List.getD_eq_getElem?_getD, List.getElem?_eq_getElem h]; rfl
theorem w25 {k : List Int} (h : InK k) : r25 k = some (lb (wjn k)) := by
  unfold r25
  have h7 := h.1
  have := iter_rn k.length (b25_1 k) (fun i => (((k.take i).map Lib.itoa).map lb, (i : Int))) (some (lb (wjn k))) (by omega) (fun i hi => ?_) ?_
  · exact this
  · unfold b25_1
    simp only [Int.toNat_natCast]
    rw [if_pos (by simpa using hi), if_pos (by omega), a59 (h.2 _ (mem_getD' hi))]
    simp only [bindC]
    rw [if_pos (by rw [List.length_map, List.length_map, List.length_take]; omega), wI (by omega) (by omega), take_succ' _ default hi, List.map_append, List.map_append]
    rfl
  · unfold b25_1
    simp only
    rw [if_neg (by simp), List.take_length, a26 _ 32 (by rw [List.length_map]; omega) (by have := wjn_len h; unfold wjn at this; omega)]
    rfl
theorem w41 {k : List Int} (h : InK k) : r41 k = some (lb (wjn k)) := by
  unfold r41
  have h7 := h.1
  have := iter_rn k.length (b41_1 k) (fun i => (lb (wjn (k.take i)), (i : Int))) (some (lb (wjn k))) (by omega) (fun i hi => ?_) ?_
  · exact this
  · have hn := h.2 _ (mem_getD' (d := default) hi)
    have hl := wjn_len (k := k.take i) ⟨by rw [List.length_take]; omega, fun n hn => h.2 n (List.mem_of_mem_take hn)⟩
    have l1 := itoaLen hn
    have s1 : (#[32] : Array UInt8).size = 1 := rfl
    unfold b41_1
    simp only [Int.toNat_natCast]
    rw [a70' hn]
    simp only [bindC]
    rw [if_pos (by simpa using hi), take_succ' _ default hi]
    by_cases h0 : i = 0
    · subst h0
      rw [if_neg (by simp), if_pos (by omega), if_pos (by rw [size_lb, size_lb]; omega)]
      simp only [List.take_zero, List.nil_append, wjn, List.map_nil, List.map_cons, jn, lb_app]
      rw [wI (by omega) (by omega)]; rfl
    · rw [if_pos (by simp; omega), if_pos (by rw [size_lb, s1]; omega), if_pos (by omega), if_pos (by rw [size_lb, size_lb, s1]; omega), wI (by omega) (by omega)]
      have e : wjn (k.take i ++ [k.getD i default]) = wjn (k.take i) ++ 32 :: Lib.itoa (k.getD i default) := by
        unfold wjn
        rw [List.map_append, List.map_singleton, jn_snoc]
        intro hx
        have := congrArg List.length hx
        rw [List.length_map, List.length_take, List.length_nil] at this
        omega
      rw [e]
      simp only [ba_one, lb_app]
      simp
  · unfold b41_1
    simp only
    rw [if_neg (by simp), List.take_length]
theorem w40 {L : List (List Int)} (h : ∀ k ∈ L, InK k) (h10 : L.length ≤ 10) : r40 L = some (lb (fmtK L)) := by
  unfold r40
  have := iter_rn L.length (b40_1 L) (fun i => (lb (fmtK (L.take i)), (i : Int))) (some (lb (fmtK L))) (by omega) (fun i hi => ?_) ?_
  · exact this
  · have hk := h _ (mem_getD' (d := default) hi)
    have hl := fmtK_len (L := L.take i) (fun k hk => h k (List.mem_of_mem_take hk))
    rw [List.length_take] at hl
    have l1 := wjn_len hk
    have s1 : (#[59] : Array UInt8).size = 1 := rfl
    unfold b40_1
    simp only [Int.toNat_natCast]
    rw [w41 hk]
    simp only [bindC]
    rw [if_pos (by simpa using hi), take_succ' _ default hi]
    by_cases h0 : i = 0
    · subst h0
      rw [if_neg (by simp), if_pos (by omega), if_pos (by rw [size_lb, size_lb]; omega)]
      simp only [List.take_zero, List.nil_append, fmtK, List.map_nil, List.map_cons, jn, lb_app]
      rw [wI (by omega) (by omega)]; rfl
    · rw [if_pos (by simp; omega), if_pos (by rw [size_lb, s1]; omega), if_pos (by omega), if_pos (by rw [size_lb, size_lb, s1]; omega), wI (by omega) (by omega)]
      have e : fmtK (L.take i ++ [L.getD i default]) = fmtK (L.take i) ++ 59 :: wjn (L.getD i default) := by
        unfold fmtK
        rw [List.map_append, List.map_singleton, jn_snoc]
        intro hx
        have := congrArg List.length hx
        rw [List.length_map, List.length_take, List.length_nil] at this
        omega
      rw [e]
      simp only [ba_one, lb_app]
      simp
  · unfold b40_1
    simp only
    rw [if_neg (by simp), List.take_length]
section
variable {H : List (Int × Int × Int × Int)} {C : List (Int × Int × Int × Int × Int)} {Q : List (Int × Int × Int)} {T : List (Int × Int)} {a b c d : Int}
theorem in6_1 (h : ∀ x ∈ H, InK (i4 x)) (hl : H.length ≤ 10) : iterC (b6_1 H C Q T a b c d) 1000000000 (0, []) = iterC (b6_2 C Q T a b c d (((H.length : Nat) : Int), (H.map fun x => wjn (i4 x)).map lb)) 1000000000 (0, []) := by
  have := iter_rn H.length (b6_1 H C Q T a b c d) (fun i => ((i : Int), ((H.take i).map fun x => wjn (i4 x)).map lb)) (iterC (b6_2 C Q T a b c d (((H.length : Nat) : Int), (H.map fun x => wjn (i4 x)).map lb)) 1000000000 (0, [])) (by omega) (fun i hi => ?_) ?_
  · exact this
  · unfold b6_1
    simp only [Int.toNat_natCast]
    have hw := w25 (h _ (mem_getD' (d := default) hi))
    unfold i4 at hw
    rw [if_pos (by simpa using hi), if_pos (by omega), hw]
    simp only [bindC]
    rw [if_pos (by rw [List.length_map, List.length_map, List.length_take]; omega), wI (by omega) (by omega), take_succ' _ default hi, List.map_append, List.map_append]
    rfl
  · unfold b6_1
    simp only
    rw [if_neg (by simp), List.take_length]
theorem in6_2 (s1 : Int × List ByteArray) (h : ∀ x ∈ C, InK (i5 x)) (hl : C.length ≤ 10) : iterC (b6_2 C Q T a b c d s1) 1000000000 (0, []) = iterC (b6_3 Q T a b c d s1 (((C.length : Nat) : Int), (C.map fun x => wjn (i5 x)).map lb)) 1000000000 (0, []) := by
  have := iter_rn C.length (b6_2 C Q T a b c d s1) (fun i => ((i : Int), ((C.take i).map fun x => wjn (i5 x)).map lb)) (iterC (b6_3 Q T a b c d s1 (((C.length : Nat) : Int), (C.map fun x => wjn (i5 x)).map lb)) 1000000000 (0, [])) (by omega) (fun i hi => ?_) ?_
  · exact this
  · unfold b6_2
    simp only [Int.toNat_natCast]
    have hw := w25 (h _ (mem_getD' (d := default) hi))
    unfold i5 at hw
    rw [if_pos (by simpa using hi), if_pos (by omega), hw]
    simp only [bindC]
    rw [if_pos (by rw [List.length_map, List.length_map, List.length_take]; omega), wI (by omega) (by omega), take_succ' _ default hi, List.map_append, List.map_append]
    rfl
  · unfold b6_2
    simp only
    rw [if_neg (by simp), List.take_length]
theorem in6_3 (s1 : Int × List ByteArray) (s2 : Int × List ByteArray) (h : ∀ x ∈ Q, InK (i3 x)) (hl : Q.length ≤ 10) : iterC (b6_3 Q T a b c d s1 s2) 1000000000 (0, []) = iterC (b6_4 T a b c d s1 s2 (((Q.length : Nat) : Int), (Q.map fun x => wjn (i3 x)).map lb)) 1000000000 (0, []) := by
  have := iter_rn Q.length (b6_3 Q T a b c d s1 s2) (fun i => ((i : Int), ((Q.take i).map fun x => wjn (i3 x)).map lb)) (iterC (b6_4 T a b c d s1 s2 (((Q.length : Nat) : Int), (Q.map fun x => wjn (i3 x)).map lb)) 1000000000 (0, [])) (by omega) (fun i hi => ?_) ?_
  · exact this
  · unfold b6_3
    simp only [Int.toNat_natCast]
    have hw := w25 (h _ (mem_getD' (d := default) hi))
    unfold i3 at hw
    rw [if_pos (by simpa using hi), if_pos (by omega), hw]
    simp only [bindC]
    rw [if_pos (by rw [List.length_map, List.length_map, List.length_take]; omega), wI (by omega) (by omega), take_succ' _ default hi, List.map_append, List.map_append]
    rfl
  · unfold b6_3
    simp only
    rw [if_neg (by simp), List.take_length]
theorem in6_4 (s1 : Int × List ByteArray) (s2 : Int × List ByteArray) (s3 : Int × List ByteArray) (h : ∀ x ∈ T, InK (i2 x)) (hl : T.length ≤ 10) (hh : InK [a, b, c, d]) : iterC (b6_4 T a b c d s1 s2 s3) 1000000000 (0, []) = iterC (b6_5 s1 s2 s3 (((T.length : Nat) : Int), (T.map fun x => wjn (i2 x)).map lb) (lb (wjn [a, b, c, d]))) 1000000000 ([], 0) := by
  have := iter_rn T.length (b6_4 T a b c d s1 s2 s3) (fun i => ((i : Int), ((T.take i).map fun x => wjn (i2 x)).map lb)) (iterC (b6_5 s1 s2 s3 (((T.length : Nat) : Int), (T.map fun x => wjn (i2 x)).map lb) (lb (wjn [a, b, c, d]))) 1000000000 ([], 0)) (by omega) (fun i hi => ?_) ?_
  · exact this
  · unfold b6_4
    simp only [Int.toNat_natCast]
    have hw := w25 (h _ (mem_getD' (d := default) hi))
    unfold i2 at hw
    rw [if_pos (by simpa using hi), if_pos (by omega), hw]
    simp only [bindC]
    rw [if_pos (by rw [List.length_map, List.length_map, List.length_take]; omega), wI (by omega) (by omega), take_succ' _ default hi, List.map_append, List.map_append]
    rfl
  · unfold b6_4
    simp only
    rw [if_neg (by simp), List.take_length, w25 hh]
    rfl
theorem in6_5 (n1 n2 n3 n4 : Int) (l1 l2 l3 l4 : List (List UInt8)) (w : List UInt8) (m1 : l1.length ≤ 10) (m2 : l2.length ≤ 10) (m3 : l3.length ≤ 10) (m4 : l4.length ≤ 10) (b1 : (jn 59 l1).length ≤ 1550) (b2 : (jn 59 l2).length ≤ 1550) (b3 : (jn 59 l3).length ≤ 1550) (b4 : (jn 59 l4).length ≤ 1550) (b5 : w.length ≤ 1550) :
    iterC (b6_5 (n1, l1.map lb) (n2, l2.map lb) (n3, l3.map lb) (n4, l4.map lb) (lb w)) 1000000000 ([], 0) = some (lb (jn 47 [jn 59 l1, jn 59 l2, jn 59 l3, jn 59 l4, w])) := by
  have hB := jn_len 47 1550 [jn 59 l1, jn 59 l2, jn 59 l3, jn 59 l4, w] (fun x hx => by
    simp only [List.mem_cons, List.not_mem_nil, or_false] at hx
    rcases hx with rfl | rfl | rfl | rfl | rfl <;> assumption)
  have := iter_rn 5 (b6_5 (n1, l1.map lb) (n2, l2.map lb) (n3, l3.map lb) (n4, l4.map lb) (lb w)) (fun i => (([jn 59 l1, jn 59 l2, jn 59 l3, jn 59 l4, w].take i).map lb, (i : Int))) (some (lb (jn 47 [jn 59 l1, jn 59 l2, jn 59 l3, jn 59 l4, w]))) (by omega) (fun i hi => ?_) ?_
  · exact this
  · unfold b6_5
    dsimp only
    have hw : r26 [lb w] ⟨#[59]⟩ = some (lb w) := a26 [w] 59 (by simp) (by simp only [jn]; omega)
    have hi' : i = 0 ∨ i = 1 ∨ i = 2 ∨ i = 3 ∨ i = 4 := by omega
    rcases hi' with rfl | rfl | rfl | rfl | rfl
    · rw [if_pos (by rfl), if_pos (by rfl), a26 l1 59 (by omega) (by omega)]
      simp only [bindC]
      rw [if_pos (by simp)]; rfl
    · rw [if_pos (by rfl), if_neg (by simp), if_pos (by rfl), a26 l2 59 (by omega) (by omega)]
      simp only [bindC]
      rw [if_pos (by simp)]; rfl
    · rw [if_pos (by rfl), if_neg (by simp), if_neg (by simp), if_pos (by rfl), a26 l3 59 (by omega) (by omega)]
      simp only [bindC]
      rw [if_pos (by simp)]; rfl
    · rw [if_pos (by rfl), if_neg (by simp), if_neg (by simp), if_neg (by simp), if_pos (by rfl), a26 l4 59 (by omega) (by omega)]
      simp only [bindC]
      rw [if_pos (by simp)]; rfl
    · rw [if_pos (by rfl), if_neg (by simp), if_neg (by simp), if_neg (by simp), if_neg (by simp), if_pos (by rfl), hw]
      simp only [bindC]
      rw [if_pos (by simp)]; rfl
  · unfold b6_5
    dsimp only
    rw [if_neg (by simp), List.take_of_length_le (by simp), a26 _ 47 (by simp) (by simp only [List.length_cons, List.length_nil] at hB; omega)]
    rfl
theorem map_wjn {α : Type} (f : α → List Int) (l : List α) : (l.map fun x => wjn (f x)) = (l.map f).map wjn := by rw [List.map_map]; rfl
theorem fK {α : Type} (f : α → List Int) (l : List α) : jn 59 (l.map fun x => wjn (f x)) = fmtK (l.map f) := by rw [map_wjn]; rfl
theorem fKb {α : Type} {f : α → List Int} {l : List α} (h : ∀ x ∈ l, InK (f x)) (hl : l.length ≤ 10) : (fmtK (l.map f)).length ≤ 1550 := by
  have := fmtK_len (L := l.map f) (fun k hk => by
    obtain ⟨x, hx, rfl⟩ := List.mem_map.1 hk
    exact h x hx)
  rw [List.length_map] at this
  omega
theorem w6 (hH : ∀ x ∈ H, InK (i4 x)) (hC : ∀ x ∈ C, InK (i5 x)) (hQ : ∀ x ∈ Q, InK (i3 x)) (hT : ∀ x ∈ T, InK (i2 x)) (hh : InK [a, b, c, d]) (nH : H.length ≤ 10) (nC : C.length ≤ 10) (nQ : Q.length ≤ 10) (nT : T.length ≤ 10) : r6 H C Q T a b c d = some (lb (fmtR H C Q T a b c d)) := by
  have hw := wjn_len hh
  unfold r6
  rw [in6_1 hH nH, in6_2 _ hC nC, in6_3 _ _ hQ nQ, in6_4 _ _ _ hT nT hh, in6_5 _ _ _ _ _ _ _ _ _ (by rw [List.length_map]; exact nH) (by rw [List.length_map]; exact nC) (by rw [List.length_map]; exact nQ) (by rw [List.length_map]; exact nT) (by rw [fK]; exact fKb hH nH) (by rw [fK]; exact fKb hC nC) (by rw [fK]; exact fKb hQ nQ) (by rw [fK]; exact fKb hT nT) (by omega), fK, fK, fK, fK]
  rfl
theorem in13_1 (hl : H.length ≤ 10) : iterC (b13_1 H C Q T a b c d) 1000000000 ([], 0) = iterC (b13_2 C Q T a b c d (H.map i4, ((H.length : Nat) : Int))) 1000000000 ([], 0) := by
  have := iter_rn H.length (b13_1 H C Q T a b c d) (fun i => ((H.take i).map i4, (i : Int))) (iterC (b13_2 C Q T a b c d (H.map i4, ((H.length : Nat) : Int))) 1000000000 ([], 0)) (by omega) (fun i hi => ?_) ?_
  · exact this
  · unfold b13_1
    simp only [Int.toNat_natCast]
    rw [if_pos (by simpa using hi), if_pos (by omega), if_pos (by omega), if_pos (by omega), if_pos (by omega), if_pos (by rw [List.length_map, List.length_take]; omega), wI (by omega) (by omega), take_succ' _ default hi, List.map_append]
    rfl
  · unfold b13_1
    simp only
    rw [if_neg (by simp), List.take_length]
theorem in13_2 (s1 : List (List Int) × Int) (hl : C.length ≤ 10) : iterC (b13_2 C Q T a b c d s1) 1000000000 ([], 0) = iterC (b13_3 Q T a b c d s1 (C.map i5, ((C.length : Nat) : Int))) 1000000000 ([], 0) := by
  have := iter_rn C.length (b13_2 C Q T a b c d s1) (fun i => ((C.take i).map i5, (i : Int))) (iterC (b13_3 Q T a b c d s1 (C.map i5, ((C.length : Nat) : Int))) 1000000000 ([], 0)) (by omega) (fun i hi => ?_) ?_
  · exact this
  · unfold b13_2
    simp only [Int.toNat_natCast]
    rw [if_pos (by simpa using hi), if_pos (by omega), if_pos (by omega), if_pos (by omega), if_pos (by omega), if_pos (by omega), if_pos (by rw [List.length_map, List.length_take]; omega), wI (by omega) (by omega), take_succ' _ default hi, List.map_append]
    rfl
  · unfold b13_2
    simp only
    rw [if_neg (by simp), List.take_length]
theorem in13_3 (s1 : List (List Int) × Int) (s2 : List (List Int) × Int) (hl : Q.length ≤ 10) : iterC (b13_3 Q T a b c d s1 s2) 1000000000 ([], 0) = iterC (b13_4 T a b c d s1 s2 (Q.map i3, ((Q.length : Nat) : Int))) 1000000000 ([], 0) := by
  have := iter_rn Q.length (b13_3 Q T a b c d s1 s2) (fun i => ((Q.take i).map i3, (i : Int))) (iterC (b13_4 T a b c d s1 s2 (Q.map i3, ((Q.length : Nat) : Int))) 1000000000 ([], 0)) (by omega) (fun i hi => ?_) ?_
  · exact this
  · unfold b13_3
    simp only [Int.toNat_natCast]
    rw [if_pos (by simpa using hi), if_pos (by omega), if_pos (by omega), if_pos (by omega), if_pos (by rw [List.length_map, List.length_take]; omega), wI (by omega) (by omega), take_succ' _ default hi, List.map_append]
    rfl
  · unfold b13_3
    simp only
    rw [if_neg (by simp), List.take_length]
theorem in13_4 (L1 L2 L3 : List (List Int)) (n1 n2 n3 : Int) (hl : T.length ≤ 10) (g1 : ∀ k ∈ L1, InK k) (g2 : ∀ k ∈ L2, InK k) (g3 : ∀ k ∈ L3, InK k) (g4 : ∀ x ∈ T, InK (i2 x)) (m1 : L1.length ≤ 10) (m2 : L2.length ≤ 10) (m3 : L3.length ≤ 10) (hh : InK [a, b, c, d]) :
    iterC (b13_4 T a b c d (L1, n1) (L2, n2) (L3, n3)) 1000000000 ([], 0) = some (lb (jn 47 [fmtK L1, fmtK L2, fmtK L3, fmtK (T.map i2), wjn [a, b, c, d]])) := by
  have := iter_rn T.length (b13_4 T a b c d (L1, n1) (L2, n2) (L3, n3)) (fun i => ((T.take i).map i2, (i : Int))) (some (lb (jn 47 [fmtK L1, fmtK L2, fmtK L3, fmtK (T.map i2), wjn [a, b, c, d]]))) (by omega) (fun i hi => ?_) ?_
  · exact this
  · unfold b13_4
    simp only [Int.toNat_natCast]
    rw [if_pos (by simpa using hi), if_pos (by omega), if_pos (by omega), if_pos (by rw [List.length_map, List.length_take]; omega), wI (by omega) (by omega), take_succ' _ default hi, List.map_append]
    rfl
  · have q1 := fmtK_len g1
    have q2 := fmtK_len g2
    have q3 := fmtK_len g3
    have q4 := fKb g4 hl
    have q5 := wjn_len hh
    have s1 : (#[47] : Array UInt8).size = 1 := rfl
    unfold b13_4
    simp only
    rw [if_neg (by simp), List.take_length, w40 g1 m1, w40 g2 m2, w40 g3 m3, w40 (L := T.map i2) (fun k hk => by
      obtain ⟨x, hx, rfl⟩ := List.mem_map.1 hk
      exact g4 x hx) (by rw [List.length_map]; exact hl), w41 hh]
    simp only [Option.bind_some]
    rw [if_pos (by simp only [s1, size_lb]; omega), if_pos (by simp only [s1, size_lb]; omega), if_pos (by simp only [s1, size_lb]; omega), if_pos (by simp only [s1, size_lb]; omega), if_pos (by simp only [s1, size_lb]; omega), if_pos (by simp only [s1, size_lb]; omega), if_pos (by simp only [s1, size_lb]; omega), if_pos (by simp only [s1, size_lb]; omega)]
    simp only [ba_one, lb_app, jn]
    simp
theorem w13 (hH : ∀ x ∈ H, InK (i4 x)) (hC : ∀ x ∈ C, InK (i5 x)) (hQ : ∀ x ∈ Q, InK (i3 x)) (hT : ∀ x ∈ T, InK (i2 x)) (hh : InK [a, b, c, d]) (nH : H.length ≤ 10) (nC : C.length ≤ 10) (nQ : Q.length ≤ 10) (nT : T.length ≤ 10) : r13 H C Q T a b c d = some (lb (fmtR H C Q T a b c d)) := by
  unfold r13
  rw [in13_1 nH, in13_2 _ nC, in13_3 _ _ nQ, in13_4 _ _ _ _ _ _ nT (fun k hk => by
      obtain ⟨x, hx, rfl⟩ := List.mem_map.1 hk
      exact hH x hx) (fun k hk => by
      obtain ⟨x, hx, rfl⟩ := List.mem_map.1 hk
      exact hC x hx) (fun k hk => by
      obtain ⟨x, hx, rfl⟩ := List.mem_map.1 hk
      exact hQ x hx) hT (by rw [List.length_map]; exact nH) (by rw [List.length_map]; exact nC) (by rw [List.length_map]; exact nQ) hh]
  rfl
theorem fmtR_len (hH : ∀ x ∈ H, InK (i4 x)) (hC : ∀ x ∈ C, InK (i5 x)) (hQ : ∀ x ∈ Q, InK (i3 x)) (hT : ∀ x ∈ T, InK (i2 x)) (hh : InK [a, b, c, d]) (nH : H.length ≤ 10) (nC : C.length ≤ 10) (nQ : Q.length ≤ 10) (nT : T.length ≤ 10) : (fmtR H C Q T a b c d).length ≤ 9000 := by
  have hw := wjn_len hh
  have := jn_len 47 1550 [fmtK (H.map i4), fmtK (C.map i5), fmtK (Q.map i3), fmtK (T.map i2), wjn [a, b, c, d]] (fun x hx => by
    simp only [List.mem_cons, List.not_mem_nil, or_false] at hx
    rcases hx with rfl | rfl | rfl | rfl | rfl
    · exact fKb hH nH
    · exact fKb hC nC
    · exact fKb hQ nQ
    · exact fKb hT nT
    · omega)
  unfold fmtR
  simp only [List.length_cons, List.length_nil] at this
  omega
end
theorem w8 {p a b m w g t : Int} (h : InK [p, a, b, m, w, g, t]) : r8 p a b m w g t = some (lb (wjn [p, a, b, m, w, g, t])) := by
  unfold r8
  rw [w25 h]; rfl
theorem w14 {p a b m w g t : Int} (h : InK [p, a, b, m, w, g, t]) : r14 p a b m w g t = some (lb (wjn [p, a, b, m, w, g, t])) := by
  unfold r14
  rw [w41 h]; rfl
end Go.Proofs.YtdlogfepbkojkaaGreatDoor

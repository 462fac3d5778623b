/- The code's step as a function with errors; loops by an invariant. -/
import Derived.Test.YthldpejmofhaoaaGreatDoorF03
import Derived.Test.YthldpejmofhaoaaGreatDoorHeatD
set_option linter.unusedVariables false
set_option linter.unusedSimpArgs false
namespace Go.Proofs.YthldpejmofhaoaaGreatDoor
open Go.Abs

/-- a loop with an invariant -/
theorem iter_inv {σ ρ : Type} (B : σ → Ctl σ ρ) (P : Nat → σ → Prop) (Q : Option ρ → Prop) (n : Nat)
    (step : ∀ i s, i < n → P i s → (∃ s', B s = .next s' ∧ P (i + 1) s') ∨ (∃ r, B s = .out r ∧ Q r))
    (stop : ∀ s, P n s → ∃ r, B s = .out r ∧ Q r) (s : σ) (h0 : P 0 s) (fuel : Nat) (hn : n < fuel) : Q (iterC B fuel s) := by
  have key : ∀ (k i fuel : Nat) (s : σ), i + k = n → k < fuel → P i s → Q (iterC B fuel s) := by
    intro k
    induction k with
    | zero =>
      intro i fuel s hi hf hP
      obtain ⟨m, rfl⟩ : ∃ m, fuel = m + 1 := ⟨fuel - 1, by omega⟩
      obtain rfl : i = n := by omega
      obtain ⟨r, h1, h2⟩ := stop s hP
      simp only [iterC, h1]; exact h2
    | succ k ih =>
      intro i fuel s hi hf hP
      obtain ⟨m, rfl⟩ : ∃ m, fuel = m + 1 := ⟨fuel - 1, by omega⟩
      rcases step i s (by omega) hP with ⟨s', h1, h2⟩ | ⟨r, h1, h2⟩
      · simp only [iterC, h1]; exact ih (i + 1) m s' (by omega) (by omega) h2
      · simp only [iterC, h1]; exact h2
  exact key n 0 fuel s (by omega) hn h0
/-- a loop over a list, with an invariant, as a function of what is left of the list -/
theorem iter_suf {α σ τ ρ : Type} [Inhabited α] (l : List α) (B : σ → Ctl σ ρ) (mk : Nat → τ → σ) (F : List α → τ → Option ρ) (I : Nat → τ → Prop) {fuel : Nat} (hl : l.length < fuel)
    (step : ∀ (i : Nat) (t : τ) (r : List α), i < l.length → I i t → l.drop i = l.getD i default :: r →
      (∃ t', B (mk i t) = .next (mk (i + 1) t') ∧ I (i + 1) t' ∧ F (l.getD i default :: r) t = F r t') ∨ B (mk i t) = .out (F (l.getD i default :: r) t))
    (stop : ∀ t, I l.length t → B (mk l.length t) = .out (F [] t)) (t : τ) (h0 : I 0 t) : iterC B fuel (mk 0 t) = F l t := by
  have key : ∀ (k i fuel : Nat) (t : τ), i + k = l.length → k < fuel → I i t → iterC B fuel (mk i t) = F (l.drop i) t := by
    intro k
    induction k with
    | zero =>
      intro i fuel t hi hf hI
      obtain ⟨m, rfl⟩ : ∃ m, fuel = m + 1 := ⟨fuel - 1, by omega⟩
      obtain rfl : i = l.length := by omega
      simp only [iterC, stop t hI, List.drop_length]
    | succ k ih =>
      intro i fuel t hi hf hI
      obtain ⟨m, rfl⟩ : ∃ m, fuel = m + 1 := ⟨fuel - 1, by omega⟩
      have hlt : i < l.length := by omega
      have hd : l.drop i = l.getD i default :: l.drop (i + 1) := by
        rw [List.drop_eq_getElem_cons hlt]; simp [List.getD_eq_getElem?_getD, hlt]
      rw [hd]
      rcases step i t _ hlt hI hd with ⟨t', e1, e2, e3⟩ | e
      · simp only [iterC, e1]
        rw [e3]; exact ih (i + 1) m t' (by omega) (by omega) e2
      · simp only [iterC, e]
  have := key l.length 0 fuel t (by omega) hl h0
  simpa using this

theorem getD_mem {α : Type} [Inhabited α] {l : List α} {i : Nat} (h : i < l.length) : l.getD i default ∈ l := by
  rw [List.getD_eq_getElem?_getD, List.getElem?_eq_getElem h, Option.getD_some]; exact List.getElem_mem h
theorem getD_set {α : Type} [Inhabited α] (l : List α) (i j : Nat) (v : α) (h : i < l.length) : (l.set i v).getD j default = if i = j then v else l.getD j default := by
  rw [List.getD_eq_getElem?_getD, List.getD_eq_getElem?_getD, List.getElem?_set]
  by_cases hij : i = j
  · subst hij; simp [h]
  · simp [hij]
theorem leL_of : ∀ l m : List Int, l.length = m.length → (∀ j, j < l.length → l.getD j default ≤ m.getD j default) → leL l m
  | [], [], _, _ => trivial
  | [], y :: m, h, _ => by simp at h
  | x :: l, [], h, _ => by simp at h
  | x :: l, y :: m, h, h2 => by
    refine ⟨by simpa using h2 0 (by simp), leL_of l m (by simpa using h) fun j hj => ?_⟩
    have := h2 (j + 1) (by simp; omega)
    simpa using this
theorem leL_get : ∀ {l m : List Int}, leL l m → l.length = m.length ∧ ∀ j, j < l.length → l.getD j default ≤ m.getD j default
  | [], [], _ => ⟨rfl, fun j hj => by simp at hj⟩
  | [], y :: m, h => h.elim
  | x :: l, [], h => h.elim
  | x :: l, y :: m, ⟨h, h2⟩ => by
    obtain ⟨e1, e2⟩ := leL_get h2
    refine ⟨by simp [e1], fun j hj => ?_⟩
    cases j with
    | zero => simpa using h
    | succ j =>
      have := e2 j (by simp at hj; omega)
      simpa using this
theorem drive_zero {a : Int} {L : List (List (Int × Int))} {l : List Int} {law : Int} (h1 : (l.length : Int) = a) (h2 : ∀ x ∈ l, 0 ≤ x ∧ x ≤ 10000) (h3 : 0 ≤ law ∧ law < L.length) : driveErrV a L l law = 0 := by
  unfold driveErrV
  have e1 : ((l.length : Int) == a) = true := by simpa using h1
  have e2 : (l.all fun x => inR x 0 10000) = true := by rw [List.all_eq_true]; intro x hx; exact inR_iff.2 (h2 x hx)
  have e3 : inR law 0 ((L.length : Int) - 1) = true := inR_iff.2 ⟨h3.1, by omega⟩
  rw [e1, e2, e3]; rfl

/-- a step, or its error -/
def stepV (b : Int) (T : List (Int × Int)) (law : List (Int × Int)) (s p : List Int) : List Int × Int :=
  if (outS b T law s p).all (inT T) = true then (outS b T law s p, 0) else ([], 22)
def steppedV (a b : Int) (T : List (Int × Int)) (L : List (List (Int × Int))) (s p : List Int) (law : Int) : List Int × Int :=
  if stErr a b T L s = 0 then (if driveErrV a L p law = 0 then stepV b T (L.getD law.toNat default) s p else ([], driveErrV a L p law)) else ([], stErr a b T L s)
theorem p64 (a b : Int) (T : List (Int × Int)) (L : List (List (Int × Int))) (s p : List Int) (law : Int) (hT : T.length < 1000) (hn : L.length < 1000) (hL : ∀ x ∈ L, x.length < 1000) (hs : s.length < 1000000) (hp : p.length < 1000000) :
    r38 a b T L s p law = some (steppedV a b T L s p law) := by
  unfold r38 steppedV
  rw [p89 a b T L s hT hn hL hs, Option.bind_some]
  by_cases h : stErr a b T L s = 0
  · have H := allOk_of h
    rw [H.open, if_pos (by rfl), if_pos h]
    simp only
    rw [p92 a b T L T L p law hn (by omega), Option.bind_some]
    by_cases hd : driveErrV a L p law = 0
    · rw [if_neg (by simpa using hd), if_pos hd, p96 H.ok (H.step hd), Option.bind_some]
      unfold stepV
      by_cases hc : (outS b T (L.getD law.toNat default) s p).all (inT T) = true
      · simp only [if_pos hc]; rfl
      · simp only [if_neg hc]; rfl
    · rw [if_pos (by simpa using hd), if_neg hd]
  · rw [if_neg h]
    have ho : (openV a b T L s).2.2.2.2.2.2 = stErr a b T L s := by unfold openV stErr; split <;> rfl
    rw [if_neg (by rw [ho]; simpa using h), if_pos (by rw [ho]; simpa using h), ho]
theorem AllOk.stepped {a b : Int} {T : List (Int × Int)} {L : List (List (Int × Int))} {s p : List Int} {law : Int} (h : AllOk a b T L s) (hd : driveErrV a L p law = 0) : steppedV a b T L s p law = stepV b T (L.getD law.toNat default) s p := by
  unfold steppedV
  rw [if_pos h.stErr, if_pos hd]
def firstE (e f : Int) : Int := if e = 0 then f else e
theorem firstV2 (e f : Int) : firstV [e, f] = firstE e f := by
  unfold firstE firstV firstV firstV
  split
  · split <;> simp_all
  · rfl
/-- depths are monotone -/
theorem hot_mono {T : List (Int × Int)} (hT : Asc 1 T) {k x y : Int} (h : x ≤ y) (hx : hot T k x = true) : hot T k y = true := by
  unfold hot at hx ⊢
  rw [decide_eq_true_eq] at hx ⊢
  obtain ⟨l1, l2⟩ := lip (c := 1) (by decide) T x y hT (Rat.intCast_le_intCast.2 h)
  grind
theorem idx_mono {p q : Int → Bool} : ∀ (l m : List Int) (i : Int), 0 ≤ i → leL l m → (∀ x y, x ≤ y → p x = false → q y = false) → (idxV q i m < 0 ∨ (0 ≤ idxV p i l ∧ idxV p i l ≤ idxV q i m))
  | [], [], i, _, _, _ => Or.inl (by simp [idxV])
  | [], y :: m, _, _, h, _ => h.elim
  | x :: l, [], _, _, h, _ => h.elim
  | x :: l, y :: m, i, hi, ⟨h1, h2⟩, hp => by
    unfold idxV
    cases hx : p x with
    | true =>
      simp only [if_true]
      cases hy : q y with
      | true => simp only [if_true]; right; omega
      | false =>
        simp only [Bool.false_eq_true, if_false]
        have hlow : ∀ (r : List Int) (i : Int), 0 ≤ i → idxV q i r < 0 ∨ i ≤ idxV q i r := by
          intro r
          induction r with
          | nil => intro i hi; left; simp [idxV]
          | cons z r ih =>
            intro i hi
            unfold idxV
            split
            · right; omega
            · rcases ih (i + 1) (by omega) with h | h
              · left; exact h
              · right; omega
        rcases hlow m (i + 1) (by omega) with h | h
        · left; exact h
        · right; omega
    | false =>
      rw [hp x y h1 hx]
      simp only [Bool.false_eq_true, if_false]
      exact idx_mono l m (i + 1) (by omega) h2 hp
theorem dep_mono {T : List (Int × Int)} (hT : Asc 1 T) {k : Int} {l m : List Int} (h : leL l m) : depS T k l ≤ depS T k m := by
  unfold depS
  have hl := (leL_get h).1
  have h1 := idx_le (fun x => !hot T k x) l 0 (by omega)
  have := idx_mono (p := fun x => !hot T k x) (q := fun x => !hot T k x) l m 0 (by omega) h (fun x y hxy hx => by
    have : hot T k x = true := by simpa using hx
    simpa using hot_mono hT hxy this)
  rcases this with h2 | h2
  · rw [if_pos h2]
    split <;> omega
  · split
    · omega
    · split <;> omega
theorem outS_leL {a b : Int} {T : List (Int × Int)} {L : List (List (Int × Int))} (ok : SetOk a b T L) {s u p w : List Int} {i j : Int} (hi : 0 ≤ i ∧ i < L.length) (hj : 0 ≤ j ∧ j < L.length) (hij : j ≤ i) (h : leL s u) (hp : leL p w) :
    leL (outS b T (L.getD i.toNat default) s p) (outS b T (L.getD j.toNat default) u w) :=
  outS_mono ok.mix ok.asc (ok.laws i.toNat (by omega)).asc (fun x => ok.law_mono j.toNat i.toNat (by omega) (by omega) x) h hp
end Go.Proofs.YthldpejmofhaoaaGreatDoor

/- SteelLots as a plain law: analyses, names, the start of martensite. -/
import Derived.Test.YthcpkkpjegldoaaDoorF07
set_option linter.unusedVariables false
set_option linter.unusedSimpArgs false
namespace Go.Proofs.YthcpkkpjegldoaaDoor
open Go.Abs

theorem awake : r4 = some true := by decide +kernel
theorem wI {a : Int} (h1 : -9223372036854775808 ≤ a) (h2 : a ≤ 9223372036854775807) : IntKind.i64.wrap a = a := IntWalk.i64_in _ ⟨by omega, by omega⟩
theorem iter_meas {σ ρ : Type} (b : σ → Ctl σ ρ) (I : σ → Prop) (μ : σ → Nat) (G : Option ρ → Prop)
    (step : ∀ s, I s → (∃ s', b s = .next s' ∧ I s' ∧ μ s' < μ s) ∨ (∃ o, b s = .out o ∧ G o)) : ∀ (fuel : Nat) (s : σ), I s → μ s < fuel → G (iterC b fuel s)
  | 0, s, _, h => absurd h (by omega)
  | k + 1, s, hi, h => by
    rcases step s hi with ⟨s', h1, h2, h3⟩ | ⟨o, h1, h2⟩
    · simp only [iterC, h1]
      exact iter_meas b I μ G step k s' h2 (by omega)
    · simp only [iterC, h1]; exact h2
theorem p21 (a b c : Int) : r21 a b c = some (inR a b c) := rfl
theorem p26 (a b c : Int) : r26 a b c = some (inR a b c) := rfl
theorem p19 (b : Bool) (e : Int) : r19 b e = some (codeIf b e) := by unfold r19 codeIf; cases b <;> rfl
theorem p17 (l : List Int) (hl : l.length < 1000000000) : r17 l = some (firstV l) := by
  have h := iter_list (τ := Unit) l (b17_1 l) (fun i _ => i) (fun _ _ x => if x = 0 then .next () else .out (some x)) (fun _ => some 0) hl
    (fun i t hi => by
      simp only [b17_1, ltN hi, if_true, if_pos (rgN hi), Int.toNat_natCast, wS i (by omega)]
      generalize l.getD i default = x
      by_cases hx : x = 0 <;> simp [hx, mapC])
    (fun t => by simp [b17_1]) ()
  unfold r17
  rw [h]
  have : ∀ (r : List Int) (i : Int), foldC (fun _ _ x => if x = 0 then Ctl.next () else .out (some x)) (fun _ : Unit => some 0) i r () = some (firstV r) := by
    intro r
    induction r with
    | nil => intro i; rfl
    | cons x r ih =>
      intro i
      by_cases hx : x = 0
      · simp only [foldC, hx, if_true, firstV]; exact ih _
      · simp only [foldC, if_neg hx, firstV]
  exact this l 0

/-- a byte that a name may have at a place -/
def okC (c : Int) (i : Nat) : Bool := (inR c 97 122 || inR c 65 90) || (!(decide (i = 0)) && (decide (c = 45) || inR c 48 57))
def nameV (s : ByteArray) : Bool := (decide (1 ≤ s.size) && decide (s.size ≤ 12)) && (List.range s.size).all fun i => okC (byteAt s i) i
theorem byteAt_nn (s : ByteArray) (i : Nat) : 0 ≤ byteAt s i ∧ byteAt s i < 256 := by
  unfold byteAt
  have := (s.data[i]?.getD 0).toNat_lt
  omega
theorem all_upto {p : Nat → Bool} {n : Nat} (h : ∀ j, j < n → p j = true) : (List.range n).all p = true := by
  rw [List.all_eq_true]; intro x hx; exact h x (List.mem_range.mp hx)
theorem not_all {p : Nat → Bool} {n i : Nat} (hi : i < n) (h : p i = false) : (List.range n).all p = false := by
  rw [← Bool.not_eq_true, List.all_eq_true]
  intro g
  have := g i (List.mem_range.mpr hi)
  rw [h] at this; cases this
theorem p25 (s : ByteArray) : r25 s = some (nameV s) := by
  unfold r25
  by_cases hs : s.size < 1 ∨ 12 < s.size
  · rw [if_pos (by simp; omega), nameV]
    have : (decide (1 ≤ s.size) && decide (s.size ≤ 12)) = false := by
      rw [Bool.and_eq_false_iff]; rcases hs with h | h
      · exact .inl (decide_eq_false (by omega))
      · exact .inr (decide_eq_false (by omega))
    rw [this]; rfl
  · rw [if_neg (by simp; omega)]
    have e0 : (decide (1 ≤ s.size) && decide (s.size ≤ 12)) = true := by rw [decide_eq_true (by omega), decide_eq_true (by omega)]; rfl
    refine iter_meas (b25_1 s) (fun x => ∃ i : Nat, x = i ∧ i ≤ s.size ∧ ∀ j, j < i → okC (byteAt s j) j = true) (fun x => s.size - x.toNat) (fun o => o = some (nameV s)) (fun x hx => ?_) 1000000000 _ ⟨0, rfl, by omega, by intro j hj; omega⟩ (by simp; omega)
    obtain ⟨i, rfl, h1, h2⟩ := hx
    unfold b25_1
    by_cases g : i < s.size
    · rw [if_pos (by simpa using g), if_pos (by omega), Int.toNat_natCast]
      have key : ((!(((decide ((byteAt s i) ≥ 97)) && (decide ((byteAt s i) ≤ 122))) || ((decide ((byteAt s i) ≥ 65)) && (decide ((byteAt s i) ≤ 90))))) && (((i : Int) == 0) || (((byteAt s i) != 45) && ((decide ((byteAt s i) < 48)) || (decide ((byteAt s i) > 57)))))) = !(okC (byteAt s i) i) := by
        generalize byteAt s i = c
        rw [Bool.eq_iff_iff]
        simp [okC, inR] <;> omega
      rw [key]
      by_cases k : okC (byteAt s i) i = true
      · left
        refine ⟨((i + 1 : Nat) : Int), ?_, ⟨i+1, rfl, g, fun j hj => ?_⟩, by show s.size - ((i + 1 : Nat) : Int).toNat < s.size - (i : Int).toNat; omega⟩
        · rw [if_neg (by rw [k]; decide), wI (by omega) (by omega)]; rfl
        · by_cases e : j = i
          · rw [e]; exact k
          · exact h2 j (by omega)
      · right
        have k : okC (byteAt s i) i = false := by simpa using k
        refine ⟨_, if_pos (by rw [k]; decide), ?_⟩
        rw [nameV, e0, not_all (p := fun i => okC (byteAt s i) i) g k]; rfl
    · right
      refine ⟨_, if_neg (by simpa using g), ?_⟩
      rw [nameV, e0, all_upto (p := fun i => okC (byteAt s i) i) (fun j hj => h2 j (by omega))]; rfl
theorem p22 (s : ByteArray) (hs : s.size ≤ 9223372036854775807) : r22 s = some (nameV s) := by
  unfold r22
  refine iter_meas (b22_1 s) (fun x => ∃ i : Nat, x = i ∧ i ≤ s.size ∧ ∀ j, j < i → okC (byteAt s j) j = true) (fun x => s.size - x.toNat) (fun o => o = some (nameV s)) (fun x hx => ?_) 10000000000000000000 _ ⟨0, rfl, by omega, by intro j hj; omega⟩ (by simp; omega)
  obtain ⟨i, rfl, h1, h2⟩ := hx
  unfold b22_1
  by_cases g : i < s.size
  · rw [if_pos (by simpa using g), if_pos (by omega), Int.toNat_natCast]
    have hb := byteAt_nn s i
    rw [wI (a := byteAt s i) (by omega) (by omega)]
    rw [p21 _ 97 122]
    simp only [bindC]
    have key : ((!((inR (byteAt s i) 97 122) || (inR (byteAt s i) 65 90))) && (((i : Int) == 0) || (((byteAt s i) != 45) && (!(inR (byteAt s i) 48 57))))) = !(okC (byteAt s i) i) := by
      generalize byteAt s i = c
      rw [Bool.eq_iff_iff]
      simp [okC, inR] <;> omega
    have g1 : ∀ q : Prop, q → (r21 (byteAt s i) 65 90).isSome = true := fun _ _ => rfl
    have g2 : ∀ q : Prop, q → (r21 (byteAt s i) 48 57).isSome = true := fun _ _ => rfl
    by_cases k : okC (byteAt s i) i = true
    · left
      refine ⟨((i + 1 : Nat) : Int), (if_pos (g1 _)).trans ((if_pos (g2 _)).trans ((if_neg ?_).trans ?_)), ⟨i+1, rfl, g, fun j hj => ?_⟩, by show s.size - ((i + 1 : Nat) : Int).toNat < s.size - (i : Int).toNat; omega⟩
      · intro h9
        have h10 : (!(okC (byteAt s i) i)) = true := key.symm.trans h9
        rw [k] at h10; cases h10
      · rw [wI (by omega) (by omega)]; rfl
      · by_cases e : j = i
        · rw [e]; exact k
        · exact h2 j (by omega)
    · right
      have k : okC (byteAt s i) i = false := by simpa using k
      refine ⟨_, (if_pos (g1 _)).trans ((if_pos (g2 _)).trans (if_pos (key.trans (by rw [k]; rfl)))), ?_⟩
      rw [nameV, not_all (p := fun i => okC (byteAt s i) i) g k, Bool.and_false]
  · right
    refine ⟨_, if_neg (by simpa using g), ?_⟩
    rw [nameV, all_upto (p := fun i => okC (byteAt s i) i) (fun j hj => h2 j (by omega)), Bool.and_true, p21, Option.bind_some]
    congr 1
    rw [Bool.eq_iff_iff]
    simp [inR]
    omega


theorem p20 (a : Int) : r20 a = some (inR a 0 10000) := rfl
theorem p24 (a : Int) : r24 a = some (inR a 1 3000) := rfl
theorem p18 (a : Int) : r18 a = some (codeIf (inR a 1 3000) 2) := by
  unfold r18
  rw [show r44 a = some (inR a 1 3000) from rfl, Option.bind_some, p19, Option.bind_some]

/-- a loop that looks for the first place where f says something -/
def firstF (f : Nat → Int) : Nat → Nat → Int × Int
  | _, 0 => (0, 0)
  | i, k+1 => if f i = 0 then firstF f (i+1) k else ((i : Int), f i)
theorem firstF_of {f : Nat → Int} : ∀ (k i : Nat), (firstF f i k).2 = 0 → firstF f i k = (0, 0) ∧ ∀ j, i ≤ j → j < i + k → f j = 0
  | 0, i, _ => ⟨rfl, fun j h1 h2 => absurd h1 (by omega)⟩
  | k+1, i, h => by
    rw [firstF] at h ⊢
    by_cases e : f i = 0
    · rw [if_pos e] at h ⊢
      obtain ⟨h1, h2⟩ := firstF_of k (i+1) h
      refine ⟨h1, fun j h3 h4 => ?_⟩
      by_cases c : j = i
      · rw [c]; exact e
      · exact h2 j (by omega) (by omega)
    · rw [if_neg e] at h; exact absurd h e
theorem iter_first {σ : Type} {n : Nat} {b : σ → Ctl σ (Int × Int)} {st : Nat → σ} {f : Nat → Int} (hn : n < 1000000000) (step : ∀ i : Nat, i < n → b (st i) = if f i = 0 then .next (st (i+1)) else .out (some ((i : Int), f i))) (stop : b (st n) = .out (some (0, 0))) :
    iterC b 1000000000 (st 0) = some (firstF f 0 n) := by
  have key : ∀ (k i fuel : Nat), i + k = n → k < fuel → iterC b fuel (st i) = some (firstF f i k) := by
    intro k
    induction k with
    | zero =>
      intro i fuel hi hf
      obtain ⟨m, rfl⟩ : ∃ m, fuel = m + 1 := ⟨fuel - 1, by omega⟩
      obtain rfl : i = n := by omega
      simp [iterC, stop, firstF]
    | succ k ih =>
      intro i fuel hi hf
      obtain ⟨m, rfl⟩ : ∃ m, fuel = m + 1 := ⟨fuel - 1, by omega⟩
      simp only [iterC, step i (by omega), firstF]
      by_cases e : f i = 0
      · simp only [if_pos e]
        exact ih (i + 1) m (by omega) (by omega)
      · simp only [if_neg e]
  exact key n 0 1000000000 (by omega) hn
theorem iter_run {σ ρ : Type} (n : Nat) (b : σ → Ctl σ ρ) (st : Nat → σ) (fin : Option ρ) (hn : n < 1000000000)
    (step : ∀ i : Nat, i < n → b (st i) = .next (st (i + 1))) (stop : b (st n) = .out fin) : iterC b 1000000000 (st 0) = fin := by
  have key : ∀ (k i fuel : Nat), i + k = n → k < fuel → iterC b fuel (st i) = fin := by
    intro k
    induction k with
    | zero =>
      intro i fuel hi hf
      obtain ⟨m, rfl⟩ : ∃ m, fuel = m + 1 := ⟨fuel - 1, by omega⟩
      obtain rfl : i = n := by omega
      simp [iterC, stop]
    | succ k ih =>
      intro i fuel hi hf
      obtain ⟨m, rfl⟩ : ∃ m, fuel = m + 1 := ⟨fuel - 1, by omega⟩
      simp only [iterC, step i (by omega)]
      exact ih (i + 1) m (by omega) (by omega)
  exact key n 0 1000000000 (by omega) hn
theorem getD_mem {α : Type} [Inhabited α] {l : List α} {i : Nat} (h : i < l.length) : l.getD i default ∈ l := by
  rw [List.getD_eq_getElem?_getD, List.getElem?_eq_getElem h, Option.getD_some]; exact List.getElem_mem h

abbrev El := ByteArray × Int × Int × Int
def known (l : List El) (i : Nat) : Bool := (l.take i).any fun o => decide (o.1 = (l.getD i default).1)
def amt (x : El) : Bool := (inR x.2.1 0 10000 && inR x.2.2.1 0 10000) && inR x.2.2.2 0 1000
/-- what is wrong with an element -/
def elE (l : List El) (i : Nat) : Int :=
  if nameV (l.getD i default).1 = true then
    if known l i = true then 5
    else if amt (l.getD i default) = true then
      if (l.getD i default).2.1 ≤ (l.getD i default).2.2.1 then 0 else 9
    else 2
  else 4
def anE (x : Int) (l : List El) : Int × Int := if inR x 1 3000 = true then (if 8 < l.length then (0, 8) else firstF (elE l) 0 l.length) else (0, 2)
def seen (l : List El) (i : Nat) : List ByteArray := (l.take i).map (·.1)
theorem seen_succ {l : List El} {i : Nat} (h : i < l.length) : seen l (i+1) = seen l i ++ [(l.getD i default).1] := by
  unfold seen
  rw [List.take_add_one, List.map_append, List.getD_eq_getElem?_getD, List.getElem?_eq_getElem h]
  rfl
theorem seen_any (l : List El) (i : Nat) : ((seen l i).any fun t => decide ((l.getD i default).1 = t)) = known l i := by
  unfold seen known
  rw [List.any_map]
  congr 1
  funext o
  simp only [Function.comp, eq_comm]
theorem p5 (x : Int) (l : List El) (hs : ∀ a ∈ l, a.1.size ≤ 9223372036854775807) : r5 x l = some (anE x l) := by
  unfold r5
  rw [p18, Option.bind_some, p19, Option.bind_some, p17 _ (by simp), Option.bind_some]
  unfold anE
  by_cases h0 : inR x 1 3000 = true
  · rw [h0, if_pos rfl]
    by_cases h1 : 8 < l.length
    · rw [if_pos h1, decide_eq_false (by omega)]; rfl
    · rw [if_neg h1, decide_eq_true (by omega), if_neg (by decide)]
      refine iter_first (st := fun i => ((i : Int), seen l i)) (by omega) (fun i hi => ?_) (by unfold b5_1; rw [if_neg (by simp)])
      unfold b5_1
      have hn := hs _ (getD_mem hi)
      rw [if_pos (by simpa using hi), if_pos (by show 0 ≤ (i : Int) ∧ (i : Int) < _; omega)]
      simp only [Int.toNat_natCast, bindC, p22 _ hn, p19, p20, p21, Option.isSome_some, Option.getD_some, implies_true, if_true, p17 [_, _, _, _] (by simp), seen_any]
      rw [wI (a := (i : Int) + 1) (by omega) (by omega)]
      show (if (firstV [codeIf (nameV (l.getD i default).1) 4, codeIf (!(known l i)) 5, codeIf (amt (l.getD i default)) 2, codeIf (decide ((l.getD i default).2.1 ≤ (l.getD i default).2.2.1)) 9] != 0) = true then _ else _) = _
      have key : firstV [codeIf (nameV (l.getD i default).1) 4, codeIf (!(known l i)) 5, codeIf (amt (l.getD i default)) 2, codeIf (decide ((l.getD i default).2.1 ≤ (l.getD i default).2.2.1)) 9] = elE l i := by
        unfold elE
        cases nameV (l.getD i default).1 <;> cases known l i <;> cases amt (l.getD i default) <;> by_cases q : (l.getD i default).2.1 ≤ (l.getD i default).2.2.1 <;> simp [firstV, codeIf, q]
      rw [key]
      by_cases e : elE l i = 0
      · rw [if_pos e, if_neg (by rw [e]; decide), seen_succ hi]; rfl
      · rw [if_neg e, if_pos (by simpa using e)]
        exact congrArg (fun z => Ctl.out (some ((i : Int), z))) key
  · rw [if_neg h0]
    have : inR x 1 3000 = false := by simpa using h0
    rw [this]
    by_cases h1 : (l.length : Int) ≤ 8
    · rw [decide_eq_true h1]; rfl
    · rw [decide_eq_false h1]; rfl
theorem getD_take {l : List El} {i j : Nat} (h : j < i) : (l.take i).getD j default = l.getD j default := by
  rw [List.getD_eq_getElem?_getD, List.getD_eq_getElem?_getD, List.getElem?_take, if_pos h]
theorem p8_2 (l : List El) (i : Nat) (hi : i < l.length) (hl : l.length ≤ 8) : iterC (b8_2 l i) 1000000000 0 = some (if known l i = true then .out (some ((i : Int), 5)) else if amt (l.getD i default) = true then
      (if (l.getD i default).2.1 ≤ (l.getD i default).2.2.1 then .next ((i + 1 : Nat) : Int) else .out (some ((i : Int), 9))) else .out (some ((i : Int), 2))) := by
  refine iter_meas (b8_2 l i) (fun y => ∃ k : Nat, y = k ∧ k ≤ i ∧ ∀ j, j < k → ¬ (l.getD j default).1 = (l.getD i default).1) (fun y => i - y.toNat) (fun o => o = some (if known l i = true then .out (some ((i : Int), 5)) else if amt (l.getD i default) = true then
      (if (l.getD i default).2.1 ≤ (l.getD i default).2.2.1 then .next ((i + 1 : Nat) : Int) else .out (some ((i : Int), 9))) else .out (some ((i : Int), 2)))) (fun y hy => ?_) 1000000000 0 ⟨0, rfl, by omega, by intro j hj; omega⟩ (by simp; omega)
  obtain ⟨k, rfl, h1, h2⟩ := hy
  unfold b8_2
  by_cases g : k < i
  · rw [if_pos (by simpa using g), if_pos (by omega), Int.toNat_natCast, Int.toNat_natCast]
    by_cases e : (l.getD k default).1 = (l.getD i default).1
    · right
      refine ⟨_, if_pos (decide_eq_true e), ?_⟩
      have : known l i = true := by
        unfold known
        rw [List.any_eq_true]
        refine ⟨l.getD k default, ?_, decide_eq_true e⟩
        rw [← getD_take g]
        exact getD_mem (by rw [List.length_take]; omega)
      rw [if_pos this]
    · left
      refine ⟨((k + 1 : Nat) : Int), ?_, ⟨k+1, rfl, g, fun j hj => ?_⟩, by show i - ((k + 1 : Nat) : Int).toNat < i - (k : Int).toNat; omega⟩
      · rw [if_neg (by simpa using e), wI (by omega) (by omega)]; rfl
      · by_cases c : j = k
        · rw [c]; exact e
        · exact h2 j (by omega)
  · right
    obtain rfl : k = i := by omega
    have hk : known l k = false := by
      unfold known
      rw [List.any_eq_false]
      intro o ho
      obtain ⟨j, hj, rfl⟩ := List.getElem_of_mem ho
      rw [List.length_take] at hj
      have := h2 j (by omega)
      rw [List.getD_eq_getElem?_getD, List.getElem?_eq_getElem (by omega)] at this
      simpa using this
    refine ⟨_, if_neg (by simp), ?_⟩
    rw [hk]
    simp only [p26, bindC, Option.isSome_some, Option.getD_some, implies_true, if_true, Int.toNat_natCast, Bool.false_eq_true, if_false]
    rw [wI (a := (k : Int) + 1) (by omega) (by omega)]
    unfold amt
    by_cases q : (l.getD k default).2.1 ≤ (l.getD k default).2.2.1
    · have q2 : (decide ((l.getD k default).2.1 > (l.getD k default).2.2.1)) = false := decide_eq_false (by omega)
      simp only [q2, if_pos q]
      cases inR (l.getD k default).2.1 0 10000 <;> cases inR (l.getD k default).2.2.1 0 10000 <;> cases inR (l.getD k default).2.2.2 0 1000 <;> rfl
    · have q2 : (decide ((l.getD k default).2.1 > (l.getD k default).2.2.1)) = true := decide_eq_true (by omega)
      simp only [q2, if_neg q]
      cases inR (l.getD k default).2.1 0 10000 <;> cases inR (l.getD k default).2.2.1 0 10000 <;> cases inR (l.getD k default).2.2.2 0 1000 <;> rfl
theorem p8 (x : Int) (l : List El) : r8 x l = some (anE x l) := by
  unfold r8 anE
  rw [p24, Option.bind_some]
  by_cases h0 : inR x 1 3000 = true
  · rw [h0, if_neg (by decide), if_pos rfl]
    by_cases h1 : 8 < l.length
    · rw [if_pos h1, if_pos (by simp; omega)]
    · rw [if_neg h1, if_neg (by simp; omega)]
      refine iter_first (st := fun i => (i : Int)) (by omega) (fun i hi => ?_) (by unfold b8_1; rw [if_neg (by simp)])
      unfold b8_1
      rw [if_pos (by simpa using hi), if_pos (by omega), Int.toNat_natCast, p25]
      simp only [bindC]
      unfold elE
      cases nameV (l.getD i default).1
      · rfl
      · rw [if_neg (by decide), p8_2 l i hi (by omega), Option.getD_some, if_pos rfl]
        by_cases k : known l i = true
        · rw [if_pos k, if_pos k]; rfl
        · rw [if_neg k, if_neg k]
          by_cases r : amt (l.getD i default) = true
          · rw [if_pos r, if_pos r]
            by_cases q : (l.getD i default).2.1 ≤ (l.getD i default).2.2.1
            · rw [if_pos q, if_pos q]; rfl
            · rw [if_neg q, if_neg q]; rfl
          · rw [if_neg r, if_neg r]; rfl
  · rw [if_neg h0]
    have : inR x 1 3000 = false := by simpa using h0
    rw [this]; rfl

/-- the sums -/
def loS (x : Int) (l : List El) : Nat → Int
  | 0 => 1000 * x
  | i+1 => loS x l i - (l.getD i default).2.2.1 * (l.getD i default).2.2.2
def hiS (x : Int) (l : List El) : Nat → Int
  | 0 => 1000 * x
  | i+1 => hiS x l i - (l.getD i default).2.1 * (l.getD i default).2.2.2
theorem mul_le {a b : Int} (h : inR a 0 10000 = true) (k : inR b 0 1000 = true) : 0 ≤ a * b ∧ a * b ≤ 10000000 := by
  simp only [inR, Bool.and_eq_true, decide_eq_true_eq] at h k
  refine ⟨Int.mul_nonneg h.1 k.1, ?_⟩
  have := Int.mul_le_mul h.2 k.2 k.1 (by omega)
  omega
theorem elE_amt {l : List El} {i : Nat} (h : elE l i = 0) : amt (l.getD i default) = true := by
  unfold elE at h
  split at h
  · split at h
    · cases h
    · split at h
      · assumption
      · cases h
  · cases h
theorem lo_bd {x : Int} {l : List El} {n : Nat} (hx : inR x 1 3000 = true) (h : ∀ j, j < n → amt (l.getD j default) = true) : ∀ i : Nat, i ≤ n →
    (-10000000 * i ≤ loS x l i ∧ loS x l i ≤ 3000000) ∧ -10000000 * i ≤ hiS x l i ∧ hiS x l i ≤ 3000000
  | 0, _ => by simp only [inR, Bool.and_eq_true, decide_eq_true_eq] at hx; simp only [loS, hiS]; omega
  | i+1, hi => by
    have h1 := lo_bd hx h i (by omega)
    have h2 := h i (by omega)
    simp only [amt, Bool.and_eq_true] at h2
    have h3 := mul_le h2.1.1 h2.2
    have h4 := mul_le h2.1.2 h2.2
    simp only [loS, hiS]
    generalize (l.getD i default).2.1 * (l.getD i default).2.2.2 = u at *
    generalize (l.getD i default).2.2.1 * (l.getD i default).2.2.2 = v at *
    omega
theorem p23 (a : Int) : r23 a = r27 a 1000 := by
  unfold r27
  rw [if_pos (by decide), if_pos (by decide)]
  rfl
theorem p27 (a : Int) : ∃ v, r27 a 1000 = some v := by
  unfold r27
  rw [if_pos (by decide), if_pos (by decide)]
  split
  · exact ⟨_, rfl⟩
  · exact ⟨_, rfl⟩
theorem p28 (a : Int) : r28 a 1000 = (r27 (IntKind.i64.wrap (0 - a)) 1000).bind fun v => some (IntKind.i64.wrap (0 - v)) := rfl
theorem sums {x : Int} {l : List El} (hx : inR x 1 3000 = true) (hl : l.length ≤ 8) (h : ∀ j, j < l.length → amt (l.getD j default) = true) :
    ∃ u v, iterC (b7_1 l) 1000000000 (0, IntKind.i64.wrap (1000 * x), IntKind.i64.wrap (1000 * x)) = some (u, v, 0) ∧ r9 x l = some (u, v) := by
  obtain ⟨u, hu⟩ := p27 (loS x l l.length)
  obtain ⟨v, hv⟩ := p27 (IntKind.i64.wrap (0 - hiS x l l.length))
  have hx' := hx
  simp only [inR, Bool.and_eq_true, decide_eq_true_eq] at hx'
  have w0 : IntKind.i64.wrap (1000 * x) = 1000 * x := wI (by omega) (by omega)
  have step : ∀ i : Nat, i < l.length → IntKind.i64.wrap (loS x l i - IntKind.i64.wrap ((l.getD i default).2.2.1 * (l.getD i default).2.2.2)) = loS x l (i+1) ∧
      IntKind.i64.wrap (hiS x l i - IntKind.i64.wrap ((l.getD i default).2.1 * (l.getD i default).2.2.2)) = hiS x l (i+1) := by
    intro i hi
    have h0 := lo_bd hx h i (by omega)
    have h1 := lo_bd hx h (i+1) (by omega)
    have h2 := h i hi
    simp only [amt, Bool.and_eq_true] at h2
    have h3 := mul_le h2.1.1 h2.2
    have h4 := mul_le h2.1.2 h2.2
    rw [wI (a := (l.getD i default).2.2.1 * (l.getD i default).2.2.2) (by omega) (by omega), wI (a := (l.getD i default).2.1 * (l.getD i default).2.2.2) (by omega) (by omega)]
    exact ⟨wI (by show _ ≤ loS x l (i+1); omega) (by show loS x l (i+1) ≤ _; omega), wI (by show _ ≤ hiS x l (i+1); omega) (by show hiS x l (i+1) ≤ _; omega)⟩
  refine ⟨u, IntKind.i64.wrap (0 - v), ?_, ?_⟩
  · rw [w0]
    refine iter_run l.length (b7_1 l) (fun i => ((i : Int), loS x l i, hiS x l i)) _ (by omega) (fun i hi => ?_) ?_
    · unfold b7_1
      rw [if_pos (by simpa using hi), if_pos (by show 0 ≤ (i : Int) ∧ (i : Int) < _; omega)]
      simp only [Int.toNat_natCast, (step i hi).1, (step i hi).2]
      rw [wI (a := (i : Int) + 1) (by omega) (by omega)]
      rfl
    · unfold b7_1
      rw [if_neg (by simp)]
      simp only [p23, hu, hv, Option.bind_some]
  · unfold r9
    rw [w0]
    refine iter_run l.length (b9_1 l) (fun i => (loS x l i, hiS x l i, (i : Int))) _ (by omega) (fun i hi => ?_) ?_
    · unfold b9_1
      have hr : 0 ≤ (i : Int) ∧ (i : Int) < (l.length : Int) := by omega
      rw [if_pos (by simpa using hi), if_pos hr, if_pos hr, if_pos hr, if_pos hr]
      simp only [Int.toNat_natCast, (step i hi).1, (step i hi).2]
      rw [wI (a := (i : Int) + 1) (by omega) (by omega)]
      rfl
    · unfold b9_1
      rw [if_neg (by simp)]
      simp only [p28, hu, hv, Option.bind_some]
theorem lots_law (x : Int) (l : List El) (hs : ∀ a ∈ l, a.1.size ≤ 9223372036854775807) : r3 x l = some true := by
  unfold r3
  rw [awake, Option.bind_some, if_neg (by decide)]
  by_cases h10 : 10 < l.length
  · rw [if_pos (by simp; omega)]
  · rw [if_neg (by simp; omega)]
    have h6 : r6 x l = some (x, l) := by unfold r6; rw [if_pos (by omega)]
    rw [h6, Option.bind_some]
    simp only [p5 x l hs, p8 x l, Option.bind_some]
    unfold r7
    rw [p5 x l hs, Option.bind_some]
    by_cases e : (anE x l).2 = 0
    · have hv : (anE x l).2 = 0 := e
      unfold anE at e
      split at e
      · rename_i hx
        split at e
        · cases e
        · rename_i hl
          have := firstF_of _ _ e
          obtain ⟨u, v, g1, g2⟩ := sums (x := x) (l := l) hx (by omega) (fun j hj => elE_amt (this.2 j (by omega) (by omega)))
          simp [hv, g1, g2]
      · cases e
    · have e' : ((anE x l).2 != 0) = true := by simpa using e
      rw [if_pos e', Option.bind_some]
      simp [e]
end Go.Proofs.YthcpkkpjegldoaaDoor

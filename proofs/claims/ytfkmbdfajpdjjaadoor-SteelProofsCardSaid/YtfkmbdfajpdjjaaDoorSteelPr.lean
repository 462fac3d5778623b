/- SteelProofs as a plain law: evidence, names, agreed ranges, pairs that contradict each other. -/
import Derived.Test.YtfkmbdfajpdjjaaDoorF07
set_option linter.unusedVariables false
set_option linter.unusedSimpArgs false
namespace Go.Proofs.YtfkmbdfajpdjjaaDoor
open Go.Abs

theorem awake : r12 = some true := by decide +kernel
theorem wI {a : Int} (h1 : -9223372036854775808 ≤ a) (h2 : a ≤ 9223372036854775807) : IntKind.i64.wrap a = a := IntWalk.i64_in _ ⟨by omega, by omega⟩
theorem iter_meas {σ ρ : Type} (b : σ → Ctl σ ρ) (I : σ → Prop) (μ : σ → Nat) (G : Option ρ → Prop)
    (step : ∀ s, I s → (∃ s', b s = .next s' ∧ I s' ∧ μ s' < μ s) ∨ (∃ o, b s = .out o ∧ G o)) : ∀ (fuel : Nat) (s : σ), I s → μ s < fuel → G (iterC b fuel s)
  | 0, s, _, h => absurd h (by omega)
  | k + 1, s, hi, h => by
    rcases step s hi with ⟨s', h1, h2, h3⟩ | ⟨o, h1, h2⟩
    · simp only [iterC, h1]
      exact iter_meas b I μ G step k s' h2 (by omega)
    · simp only [iterC, h1]; exact h2
theorem p66 (a b c : Int) : r66 a b c = some (inR a b c) := rfl
theorem p29 (a b c : Int) : r29 a b c = some (inR a b c) := rfl
theorem p68 (b : Bool) (e : Int) : r68 b e = some (codeIf b e) := by unfold r68 codeIf; cases b <;> rfl
theorem p67 (l : List Int) (hl : l.length < 1000000000) : r67 l = some (firstV l) := by
  have h := iter_list (τ := Unit) l (b67_1 l) (fun i _ => i) (fun _ _ x => if x = 0 then .next () else .out (some x)) (fun _ => some 0) hl
    (fun i t hi => by
      simp only [b67_1, ltN hi, if_true, if_pos (rgN hi), Int.toNat_natCast, wS i (by omega)]
      generalize l.getD i default = x
      by_cases hx : x = 0 <;> simp [hx, mapC])
    (fun t => by simp [b67_1]) ()
  unfold r67
  rw [h]
  have : ∀ (r : List Int) (i : Int), foldC (fun _ _ x => if x = 0 then Ctl.next () else .out (some x)) (fun _ : Unit => some 0) i r () = some (firstV r) := by
    intro r
    induction r with
    | nil => intro i; rfl
    | cons x r ih =>
      intro i
      by_cases hx : x = 0
      · simp only [foldC, hx, if_true, firstV]; exact ih _
      · simp only [foldC, if_neg hx, firstV]
  exact this l 0

/-- a byte that a name may have at a place -/
def okC (c : Int) (i : Nat) : Bool := (inR c 97 122 || inR c 65 90) || (!(decide (i = 0)) && (decide (c = 45) || inR c 48 57))
def nameV (s : ByteArray) : Bool := (decide (1 ≤ s.size) && decide (s.size ≤ 12)) && (List.range s.size).all fun i => okC (byteAt s i) i
theorem byteAt_nn (s : ByteArray) (i : Nat) : 0 ≤ byteAt s i ∧ byteAt s i < 256 := by
  unfold byteAt
  have := (s.data[i]?.getD 0).toNat_lt
  omega
theorem all_upto {p : Nat → Bool} {n : Nat} (h : ∀ j, j < n → p j = true) : (List.range n).all p = true := by
  rw [List.all_eq_true]; intro x hx; exact h x (List.mem_range.mp hx)
theorem not_all {p : Nat → Bool} {n i : Nat} (hi : i < n) (h : p i = false) : (List.range n).all p = false := by
  rw [← Bool.not_eq_true, List.all_eq_true]
  intro g
  have := g i (List.mem_range.mpr hi)
  rw [h] at this; cases this
theorem p95 (s : ByteArray) : r95 s = some (nameV s) := by
  unfold r95
  by_cases hs : s.size < 1 ∨ 12 < s.size
  · rw [if_pos (by simp; omega), nameV]
    have : (decide (1 ≤ s.size) && decide (s.size ≤ 12)) = false := by
      rw [Bool.and_eq_false_iff]; rcases hs with h | h
      · exact .inl (decide_eq_false (by omega))
      · exact .inr (decide_eq_false (by omega))
    rw [this]; rfl
  · rw [if_neg (by simp; omega)]
    have e0 : (decide (1 ≤ s.size) && decide (s.size ≤ 12)) = true := by rw [decide_eq_true (by omega), decide_eq_true (by omega)]; rfl
    refine iter_meas (b95_1 s) (fun x => ∃ i : Nat, x = i ∧ i ≤ s.size ∧ ∀ j, j < i → okC (byteAt s j) j = true) (fun x => s.size - x.toNat) (fun o => o = some (nameV s)) (fun x hx => ?_) 1000000000 _ ⟨0, rfl, by omega, by intro j hj; omega⟩ (by simp; omega)
    obtain ⟨i, rfl, h1, h2⟩ := hx
    unfold b95_1
    by_cases g : i < s.size
    · rw [if_pos (by simpa using g), if_pos (by omega), Int.toNat_natCast]
      have key : ((!(((decide ((byteAt s i) ≥ 97)) && (decide ((byteAt s i) ≤ 122))) || ((decide ((byteAt s i) ≥ 65)) && (decide ((byteAt s i) ≤ 90))))) && (((i : Int) == 0) || (((byteAt s i) != 45) && ((decide ((byteAt s i) < 48)) || (decide ((byteAt s i) > 57)))))) = !(okC (byteAt s i) i) := by
        generalize byteAt s i = c
        rw [Bool.eq_iff_iff]
        simp [okC, inR] <;> omega
      rw [key]
      by_cases k : okC (byteAt s i) i = true
      · left
        refine ⟨((i + 1 : Nat) : Int), ?_, ⟨i+1, rfl, g, fun j hj => ?_⟩, by show s.size - ((i + 1 : Nat) : Int).toNat < s.size - (i : Int).toNat; omega⟩
        · rw [if_neg (by rw [k]; decide), wI (by omega) (by omega)]; rfl
        · by_cases e : j = i
          · rw [e]; exact k
          · exact h2 j (by omega)
      · right
        have k : okC (byteAt s i) i = false := by simpa using k
        refine ⟨_, if_pos (by rw [k]; decide), ?_⟩
        rw [nameV, e0, not_all (p := fun i => okC (byteAt s i) i) g k]; rfl
    · right
      refine ⟨_, if_neg (by simpa using g), ?_⟩
      rw [nameV, e0, all_upto (p := fun i => okC (byteAt s i) i) (fun j hj => h2 j (by omega))]; rfl
theorem p93 (s : ByteArray) (hs : s.size ≤ 9223372036854775807) : r93 s = some (nameV s) := by
  unfold r93
  refine iter_meas (b93_1 s) (fun x => ∃ i : Nat, x = i ∧ i ≤ s.size ∧ ∀ j, j < i → okC (byteAt s j) j = true) (fun x => s.size - x.toNat) (fun o => o = some (nameV s)) (fun x hx => ?_) 10000000000000000000 _ ⟨0, rfl, by omega, by intro j hj; omega⟩ (by simp; omega)
  obtain ⟨i, rfl, h1, h2⟩ := hx
  unfold b93_1
  by_cases g : i < s.size
  · rw [if_pos (by simpa using g), if_pos (by omega), Int.toNat_natCast]
    have hb := byteAt_nn s i
    rw [wI (a := byteAt s i) (by omega) (by omega)]
    rw [p66 _ 97 122]
    simp only [bindC]
    have key : ((!((inR (byteAt s i) 97 122) || (inR (byteAt s i) 65 90))) && (((i : Int) == 0) || (((byteAt s i) != 45) && (!(inR (byteAt s i) 48 57))))) = !(okC (byteAt s i) i) := by
      generalize byteAt s i = c
      rw [Bool.eq_iff_iff]
      simp [okC, inR] <;> omega
    have g1 : ∀ q : Prop, q → (r66 (byteAt s i) 65 90).isSome = true := fun _ _ => rfl
    have g2 : ∀ q : Prop, q → (r66 (byteAt s i) 48 57).isSome = true := fun _ _ => rfl
    by_cases k : okC (byteAt s i) i = true
    · left
      refine ⟨((i + 1 : Nat) : Int), (if_pos (g1 _)).trans ((if_pos (g2 _)).trans ((if_neg ?_).trans ?_)), ⟨i+1, rfl, g, fun j hj => ?_⟩, by show s.size - ((i + 1 : Nat) : Int).toNat < s.size - (i : Int).toNat; omega⟩
      · intro h9
        have h10 : (!(okC (byteAt s i) i)) = true := key.symm.trans h9
        rw [k] at h10; cases h10
      · rw [wI (by omega) (by omega)]; rfl
      · by_cases e : j = i
        · rw [e]; exact k
        · exact h2 j (by omega)
    · right
      have k : okC (byteAt s i) i = false := by simpa using k
      refine ⟨_, (if_pos (g1 _)).trans ((if_pos (g2 _)).trans (if_pos (key.trans (by rw [k]; rfl)))), ?_⟩
      rw [nameV, not_all (p := fun i => okC (byteAt s i) i) g k, Bool.and_false]
  · right
    refine ⟨_, if_neg (by simpa using g), ?_⟩
    rw [nameV, all_upto (p := fun i => okC (byteAt s i) i) (fun j hj => h2 j (by omega)), Bool.and_true, p66, Option.bind_some]
    congr 1
    rw [Bool.eq_iff_iff]
    simp [inR]
    omega

abbrev Ev := ByteArray × Int × Int
def known (l : List Ev) (i : Nat) : Bool := (l.take i).any fun o => decide (o.1 = (l.getD i default).1)
/-- what is wrong with a piece of evidence -/
def itemE (l : List Ev) (i : Nat) : Int :=
  if nameV (l.getD i default).1 = true then
    if known l i = true then 5
    else if (inR (l.getD i default).2.1 0 3000 && inR (l.getD i default).2.2 0 3000) = true then
      if (l.getD i default).2.1 ≤ (l.getD i default).2.2 then 0 else 9
    else 2
  else 4
def scanI (f : Nat → Int) : Nat → Nat → Int
  | _, 0 => 0
  | i, k+1 => if f i = 0 then scanI f (i+1) k else f i
theorem scanI_zero {f : Nat → Int} : ∀ (k i : Nat), scanI f i k = 0 → ∀ j, i ≤ j → j < i + k → f j = 0
  | 0, i, _, j, h1, h2 => absurd h1 (by omega)
  | k+1, i, h, j, h1, h2 => by
    rw [scanI] at h
    by_cases e : f i = 0
    · rw [if_pos e] at h
      by_cases c : j = i
      · rw [c]; exact e
      · exact scanI_zero k (i+1) h j (by omega) (by omega)
    · rw [if_neg e] at h; exact absurd h e
theorem scanI_of {f : Nat → Int} : ∀ (k i : Nat), (∀ j, i ≤ j → j < i + k → f j = 0) → scanI f i k = 0
  | 0, i, _ => rfl
  | k+1, i, h => by rw [scanI, if_pos (h i (by omega) (by omega))]; exact scanI_of k (i+1) (fun j h1 h2 => h j (by omega) (by omega))
def evE (l : List Ev) : Int := if l.length = 0 then 10 else if 12 < l.length then 8 else scanI (itemE l) 0 l.length
theorem iter_scanI {n : Nat} {b : Int → Ctl Int Int} {f : Nat → Int} (hn : n < 1000000000) (step : ∀ i : Nat, i < n → b i = if f i = 0 then .next ((i + 1 : Nat) : Int) else .out (some (f i))) (stop : b n = .out (some 0)) : iterC b 1000000000 0 = some (scanI f 0 n) := by
  refine iter_meas b (fun x => ∃ i : Nat, x = i ∧ i ≤ n ∧ scanI f i (n - i) = scanI f 0 n) (fun x => n - x.toNat) (fun o => o = some (scanI f 0 n)) (fun x hx => ?_) 1000000000 0 ⟨0, rfl, by omega, rfl⟩ (by simp; omega)
  obtain ⟨i, rfl, h1, h2⟩ := hx
  by_cases g : i < n
  · rw [step i g]
    rw [show n - i = (n - (i+1)) + 1 by omega, scanI] at h2
    by_cases e : f i = 0
    · left
      rw [if_pos e] at h2 ⊢
      exact ⟨_, rfl, ⟨i+1, rfl, g, h2⟩, by show n - ((i + 1 : Nat) : Int).toNat < n - (i : Int).toNat; omega⟩
    · right
      rw [if_neg e] at h2 ⊢
      exact ⟨_, rfl, by rw [h2]⟩
  · right
    obtain rfl : i = n := by omega
    rw [Nat.sub_self, scanI] at h2
    exact ⟨_, stop, by rw [h2]⟩
theorem getD_take {l : List Ev} {i j : Nat} (h : j < i) : (l.take i).getD j default = l.getD j default := by
  rw [List.getD_eq_getElem?_getD, List.getD_eq_getElem?_getD, List.getElem?_take, if_pos h]
theorem getD_mem' {l : List Ev} {i : Nat} (h : i < l.length) : l.getD i default ∈ l := by
  rw [List.getD_eq_getElem?_getD, List.getElem?_eq_getElem h]; exact List.getElem_mem h
theorem p121 (l : List Ev) (x : ByteArray) (a b : Int) (hl : l.length < 1000000000) : r121 l x a b = some (l.any fun o => decide (o.1 = x)) := by
  unfold r121 r139
  have : ∃ v : Int, iterC (b139_1 l x a b) 1000000000 0 = some v ∧ (decide (v ≥ 0)) = l.any fun o => decide (o.1 = x) := by
    refine iter_meas (b139_1 l x a b) (fun y => ∃ i : Nat, y = i ∧ i ≤ l.length ∧ ∀ j, j < i → ¬ (l.getD j default).1 = x) (fun y => l.length - y.toNat) (fun o => ∃ v : Int, o = some v ∧ (decide (v ≥ 0)) = l.any fun o => decide (o.1 = x)) (fun y hy => ?_) 1000000000 0 ⟨0, rfl, by omega, by intro j hj; omega⟩ (by simp; omega)
    obtain ⟨i, rfl, h1, h2⟩ := hy
    unfold b139_1
    by_cases g : i < l.length
    · rw [if_pos (by simpa using g), if_pos (by omega), Int.toNat_natCast, r122]
      simp only [bindC]
      by_cases e : (l.getD i default).1 = x
      · right
        refine ⟨_, if_pos (decide_eq_true e), (i : Int), rfl, ?_⟩
        rw [decide_eq_true (by omega), eq_comm, List.any_eq_true]
        exact ⟨_, getD_mem' g, decide_eq_true e⟩
      · left
        refine ⟨((i + 1 : Nat) : Int), ?_, ⟨i+1, rfl, g, fun j hj => ?_⟩, by show l.length - ((i + 1 : Nat) : Int).toNat < l.length - (i : Int).toNat; omega⟩
        · rw [if_neg (by simpa using e), wI (by omega) (by omega)]; rfl
        · by_cases c : j = i
          · rw [c]; exact e
          · exact h2 j (by omega)
    · right
      refine ⟨_, if_neg (by simpa using g), -1, rfl, ?_⟩
      rw [decide_eq_false (by omega), eq_comm, List.any_eq_false]
      intro o ho
      obtain ⟨j, hj, rfl⟩ := List.getElem_of_mem ho
      have := h2 j (by omega)
      rw [List.getD_eq_getElem?_getD, List.getElem?_eq_getElem hj] at this
      simpa using this
  obtain ⟨v, h1, h2⟩ := this
  rw [h1, Option.bind_some, h2]
theorem p120 (a : Int) : r120 a = some (inR a 0 3000) := rfl
theorem p98 (l : List Ev) (hs : ∀ x ∈ l, x.1.size ≤ 9223372036854775807) : r98 l = some (evE l) := by
  unfold r98
  rw [p68, Option.bind_some, p68, Option.bind_some, p67 _ (by simp), Option.bind_some]
  unfold evE
  by_cases h0 : l.length = 0
  · rw [if_pos h0, decide_eq_false (by omega)]; rfl
  · rw [if_neg h0, decide_eq_true (by omega)]
    by_cases h1 : 12 < l.length
    · rw [if_pos h1, decide_eq_false (by omega)]; rfl
    · rw [if_neg h1, decide_eq_true (by omega), if_neg (by decide)]
      refine iter_scanI (by omega) (fun i hi => ?_) (by unfold b98_1; rw [if_neg (by simp)])
      unfold b98_1
      rw [if_pos (by simpa using hi), if_pos (by omega), if_pos (by omega), Int.toNat_natCast, p121 _ _ _ _ (by simp; omega)]
      have hn := hs _ (getD_mem' hi)
      simp only [bindC, p93 _ hn, p68, p120, Option.isSome_some, Option.getD_some, implies_true, if_true, p67 [_, _, _, _] (by simp)]
      rw [wI (a := (i : Int) + 1) (by omega) (by omega)]
      show (if (firstV [codeIf (nameV (l.getD i default).1) 4, codeIf (!(known l i)) 5, codeIf (inR (l.getD i default).2.1 0 3000 && inR (l.getD i default).2.2 0 3000) 2, codeIf (decide ((l.getD i default).2.1 ≤ (l.getD i default).2.2)) 9] != 0) = true then _ else _) = _
      have key : firstV [codeIf (nameV (l.getD i default).1) 4, codeIf (!(known l i)) 5, codeIf (inR (l.getD i default).2.1 0 3000 && inR (l.getD i default).2.2 0 3000) 2, codeIf (decide ((l.getD i default).2.1 ≤ (l.getD i default).2.2)) 9] = itemE l i := by
        unfold itemE
        cases nameV (l.getD i default).1 <;> cases known l i <;> cases (inR (l.getD i default).2.1 0 3000 && inR (l.getD i default).2.2 0 3000) <;> by_cases q : (l.getD i default).2.1 ≤ (l.getD i default).2.2 <;> simp [firstV, codeIf, q]
      rw [key]
      by_cases e : itemE l i = 0
      · rw [if_pos e, if_neg (by rw [e]; decide)]; rfl
      · rw [if_neg e, if_pos (by simpa using e)]
        exact congrArg (fun z => Ctl.out (some z)) key
theorem p49_2 (l : List Ev) (i : Nat) (hi : i < l.length) (hl : l.length ≤ 12) : iterC (b49_2 l i) 1000000000 0 = some (if known l i = true then .out (some 5) else if (inR (l.getD i default).2.1 0 3000 && inR (l.getD i default).2.2 0 3000) = true then
      (if (l.getD i default).2.1 ≤ (l.getD i default).2.2 then .next ((i + 1 : Nat) : Int) else .out (some 9)) else .out (some 2)) := by
  refine iter_meas (b49_2 l i) (fun y => ∃ k : Nat, y = k ∧ k ≤ i ∧ ∀ j, j < k → ¬ (l.getD j default).1 = (l.getD i default).1) (fun y => i - y.toNat) (fun o => o = some (if known l i = true then .out (some 5) else if (inR (l.getD i default).2.1 0 3000 && inR (l.getD i default).2.2 0 3000) = true then
      (if (l.getD i default).2.1 ≤ (l.getD i default).2.2 then .next ((i + 1 : Nat) : Int) else .out (some 9)) else .out (some 2))) (fun y hy => ?_) 1000000000 0 ⟨0, rfl, by omega, by intro j hj; omega⟩ (by simp; omega)
  obtain ⟨k, rfl, h1, h2⟩ := hy
  unfold b49_2
  by_cases g : k < i
  · rw [if_pos (by simpa using g), if_pos (by omega), if_pos (by omega), Int.toNat_natCast, Int.toNat_natCast]
    by_cases e : (l.getD k default).1 = (l.getD i default).1
    · right
      refine ⟨_, if_pos (decide_eq_true e), ?_⟩
      have : known l i = true := by
        unfold known
        rw [List.any_eq_true]
        refine ⟨l.getD k default, ?_, decide_eq_true e⟩
        rw [← getD_take g]
        exact getD_mem' (by rw [List.length_take]; omega)
      rw [if_pos this]
    · left
      refine ⟨((k + 1 : Nat) : Int), ?_, ⟨k+1, rfl, g, fun j hj => ?_⟩, by show i - ((k + 1 : Nat) : Int).toNat < i - (k : Int).toNat; omega⟩
      · rw [if_neg (by simpa using e), wI (by omega) (by omega)]; rfl
      · by_cases c : j = k
        · rw [c]; exact e
        · exact h2 j (by omega)
  · right
    obtain rfl : k = i := by omega
    have hk : known l k = false := by
      unfold known
      rw [List.any_eq_false]
      intro o ho
      obtain ⟨j, hj, rfl⟩ := List.getElem_of_mem ho
      rw [List.length_take] at hj
      have := h2 j (by omega)
      rw [List.getD_eq_getElem?_getD, List.getElem?_eq_getElem (by omega)] at this
      simpa using this
    refine ⟨_, if_neg (by simp), ?_⟩
    rw [hk, if_pos (rgN hi), Int.toNat_natCast]
    simp only [p29, bindC, Option.isSome_some, Option.getD_some, implies_true, if_true, rgN hi, and_self, Bool.false_eq_true, if_false]
    rw [wI (a := (k : Int) + 1) (by omega) (by omega)]
    by_cases q : (l.getD k default).2.1 ≤ (l.getD k default).2.2
    · have q2 : (decide ((l.getD k default).2.1 > (l.getD k default).2.2)) = false := decide_eq_false (by omega)
      rw [q2, if_pos q]
      cases inR (l.getD k default).2.1 0 3000 <;> cases inR (l.getD k default).2.2 0 3000 <;> rfl
    · have q2 : (decide ((l.getD k default).2.1 > (l.getD k default).2.2)) = true := decide_eq_true (by omega)
      rw [q2, if_neg q]
      cases inR (l.getD k default).2.1 0 3000 <;> cases inR (l.getD k default).2.2 0 3000 <;> rfl
theorem p49 (l : List Ev) : r49 l = some (evE l) := by
  unfold r49 evE
  by_cases h0 : l.length = 0
  · rw [if_pos h0, if_pos (by rw [h0]; rfl)]
  · rw [if_neg h0, if_neg (by simp; intro h; rw [h] at h0; exact h0 rfl)]
    by_cases h1 : 12 < l.length
    · rw [if_pos h1, if_pos (by simp; omega)]
    · rw [if_neg h1, if_neg (by simp; omega)]
      refine iter_scanI (by omega) (fun i hi => ?_) (by unfold b49_1; rw [if_neg (by simp)])
      unfold b49_1
      rw [if_pos (by simpa using hi), if_pos (by omega), Int.toNat_natCast, p95]
      simp only [bindC]
      unfold itemE
      cases nameV (l.getD i default).1
      · rfl
      · rw [if_neg (by decide), p49_2 l i hi (by omega), Option.getD_some, if_pos rfl]
        by_cases k : known l i = true
        · rw [if_pos k, if_pos k]; rfl
        · rw [if_neg k, if_neg k]
          by_cases r : (inR (l.getD i default).2.1 0 3000 && inR (l.getD i default).2.2 0 3000) = true
          · rw [if_pos r, if_pos r]
            by_cases q : (l.getD i default).2.1 ≤ (l.getD i default).2.2
            · rw [if_pos q, if_pos q]; rfl
            · rw [if_neg q, if_neg q]; rfl
          · rw [if_neg r, if_neg r]; rfl
theorem p47 (l : List Ev) (hl : l.length ≤ 14) : r47 l = some l := by
  unfold r47; rw [if_pos (by omega)]
end Go.Proofs.YtfkmbdfajpdjjaaDoor

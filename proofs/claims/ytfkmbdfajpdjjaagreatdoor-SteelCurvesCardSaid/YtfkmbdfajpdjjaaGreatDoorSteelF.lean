/- Steel: knots at a temperature, what a steel has of a range (plain). -/
import Derived.Test.YtfkmbdfajpdjjaaGreatDoorF02
import Derived.Test.YtfkmbdfajpdjjaaGreatDoorF03
import Derived.Test.YtfkmbdfajpdjjaaGreatDoorSteelS
set_option linter.unusedVariables false
set_option linter.unusedSimpArgs false
namespace Go.Proofs.YtfkmbdfajpdjjaaGreatDoor
open Go.Abs

/-- the last element with a property -/
def lastP {α : Type} (p : α → Bool) : List α → Option α
  | [] => none
  | x :: r => match lastP p r with | some y => some y | none => if p x then some x else none
theorem lastP_snoc {α : Type} (p : α → Bool) (x : α) : ∀ l : List α, lastP p (l ++ [x]) = if p x = true then some x else lastP p l
  | [] => by simp [lastP]
  | y :: l => by
    simp only [List.cons_append, lastP, lastP_snoc p x l]
    by_cases h : p x = true <;> simp [h]
theorem lastP_mem {α : Type} {p : α → Bool} {x : α} : ∀ {l : List α}, lastP p l = some x → x ∈ l ∧ p x = true
  | [], h => by cases h
  | y :: l, h => by
    simp only [lastP] at h
    cases hl : lastP p l with
    | some z =>
      rw [hl] at h
      obtain rfl := Option.some.inj h
      have := lastP_mem hl
      exact ⟨by simp [this.1], this.2⟩
    | none =>
      rw [hl] at h
      by_cases hy : p y = true
      · simp only [hy, if_true] at h
        obtain rfl := Option.some.inj h
        exact ⟨by simp, hy⟩
      · simp [hy] at h
theorem iter_down {α ρ : Type} [Inhabited α] (l : List α) (B : Int → Ctl Int ρ) (p : α → Bool) (A : α → Option ρ) (N : Option ρ) (hl : l.length < 1000000000)
    (step : ∀ i : Nat, i < l.length → B i = if p (l.getD i default) = true then .out (A (l.getD i default)) else .next ((i : Int) - 1)) (stop : B (-1) = .out N) :
    iterC B 1000000000 ((l.length : Int) - 1) = match lastP p l with | some x => A x | none => N := by
  have key : ∀ (i fuel : Nat), i ≤ l.length → i < fuel → iterC B fuel ((i : Int) - 1) = match lastP p (l.take i) with | some x => A x | none => N := by
    intro i
    induction i with
    | zero =>
      intro fuel _ hf
      obtain ⟨m, rfl⟩ : ∃ m, fuel = m + 1 := ⟨fuel - 1, by omega⟩
      show iterC B (m + 1) (-1) = _
      simp only [iterC, stop, List.take_zero, lastP]
    | succ i ih =>
      intro fuel hi hf
      obtain ⟨m, rfl⟩ : ∃ m, fuel = m + 1 := ⟨fuel - 1, by omega⟩
      have e : l.take (i + 1) = l.take i ++ [l.getD i default] := by
        rw [List.take_add_one]
        have : l[i]? = some (l.getD i default) := by rw [List.getD_eq_getElem?_getD, List.getElem?_eq_getElem (show i < l.length by omega)]; rfl
        rw [this]; rfl
      rw [e, lastP_snoc, show ((i + 1 : Nat) : Int) - 1 = (i : Int) by omega]
      simp only [iterC, step i (by omega)]
      by_cases hp : p (l.getD i default) = true
      · simp only [hp, if_true]
      · simp only [if_neg hp]
        exact ih m (by omega) (by omega)
  have := key l.length 1000000000 (Nat.le_refl _) hl
  rw [List.take_length] at this
  exact this
theorem find_lead {α : Type} [Inhabited α] (p : α → Bool) : ∀ l : List α, l.find? p = if lead (fun x => !p x) l < l.length then some (l.getD (lead (fun x => !p x) l) default) else none
  | [] => by simp [lead]
  | x :: l => by
    unfold lead
    by_cases h : p x = true
    · simp [h]
    · have := find_lead p l
      simp only [h, List.find?_cons, Bool.not_false, if_true, List.length_cons, List.getD_cons_succ, this]
      by_cases g : lead (fun x => !p x) l < l.length
      · rw [if_pos g, if_pos (by omega)]
      · rw [if_neg g, if_neg (by omega)]

def heatAt (H : List (Int × Int × Int × Int)) (k : Int) := lastP (fun x => decide (x.1 ≤ k)) H
def coolAt (C : List (Int × Int × Int × Int × Int)) (k : Int) := C.find? (fun x => decide (x.1 ≥ k))
def coldAt (Q : List (Int × Int × Int)) (k : Int) := Q.find? (fun x => decide (x.1 ≥ k))
def tempAt (T : List (Int × Int)) (k : Int) := lastP (fun x => decide (x.1 ≤ k)) T
section
variable (H : List (Int × Int × Int × Int)) (C : List (Int × Int × Int × Int × Int)) (Q : List (Int × Int × Int)) (T : List (Int × Int)) (a b c d : Int)
theorem wD {i n : Nat} (h : i < n) (hn : n < 1000000000) : IntKind.i64.wrap ((i : Int) - 1) = (i : Int) - 1 := wI (by omega) (by omega)
theorem p114 (k : Int) (hl : H.length < 1000000000) : r87 H C Q T a b c d k = some (heatAt H k) := by
  unfold r87 heatAt
  rw [wI (by omega) (by omega)]
  have h := iter_down H (b87_1 H k) (fun x => decide (x.1 ≤ k)) (fun x => some (some x)) (some none) hl (fun i hi => by
    refine (if_pos (by simp)).trans ((if_pos (rgN hi)).trans ((if_pos (rgN hi)).trans ?_))
    rw [wD hi hl]
    show (if (decide ((H.getD i default).1 ≤ k)) = true then _ else _) = _
    by_cases g : (decide ((H.getD i default).1 ≤ k)) = true
    · rw [if_pos g, if_pos g]; exact if_pos (rgN hi)
    · rw [if_neg g, if_neg g]) (if_neg (by decide))
  rw [h]
  cases lastP (fun x => decide (x.1 ≤ k)) H <;> rfl
theorem p119 (k : Int) (hl : T.length < 1000000000) : r93 H C Q T a b c d k = some (tempAt T k) := by
  unfold r93 tempAt
  rw [wI (by omega) (by omega)]
  have h := iter_down T (b93_1 T k) (fun x => decide (x.1 ≤ k)) (fun x => some (some x)) (some none) hl (fun i hi => by
    refine (if_pos (by simp)).trans ((if_pos (rgN hi)).trans ((if_pos (rgN hi)).trans ?_))
    rw [wD hi hl]
    show (if (decide ((T.getD i default).1 ≤ k)) = true then _ else _) = _
    by_cases g : (decide ((T.getD i default).1 ≤ k)) = true
    · rw [if_pos g, if_pos g]; exact if_pos (rgN hi)
    · rw [if_neg g, if_neg g]) (if_neg (by decide))
  rw [h]
  cases lastP (fun x => decide (x.1 ≤ k)) T <;> rfl
theorem p145 (k : Int) (hl : C.length < 1000000000) : r132 C k = some (if lead (fun x : Int × Int × Int × Int × Int => !decide (x.1 ≥ k)) C < C.length then (lead (fun x => !decide (x.1 ≥ k)) C : Int) else -1) := by
  unfold r132
  have h := iter_lead C (b132_1 C k) (fun x => !decide (x.1 ≥ k)) (fun i => some (if i < C.length then i else -1)) hl (fun i hi => by
    refine (if_pos (ltN hi)).trans ((if_pos (rgN hi)).trans ?_)
    rw [wS i (by omega)]
    show (if (decide ((C.getD i default).1 ≥ k)) = true then _ else _) = _
    by_cases g : (decide ((C.getD i default).1 ≥ k)) = true
    · rw [if_pos g, if_neg (by rw [g]; decide), if_pos (by omega)]
    · rw [if_neg g, if_pos (by simpa using g)]) ((if_neg (by simp)).trans (by simp))
  rw [h]
  congr 1
  by_cases g : lead (fun x : Int × Int × Int × Int × Int => !decide (x.1 ≥ k)) C < C.length
  · rw [if_pos g, if_pos (by omega)]
  · rw [if_neg g, if_neg (by omega)]
theorem p146 (k : Int) (hl : Q.length < 1000000000) : r133 Q k = some (if lead (fun x : Int × Int × Int => !decide (x.1 ≥ k)) Q < Q.length then (lead (fun x => !decide (x.1 ≥ k)) Q : Int) else -1) := by
  unfold r133
  have h := iter_lead Q (b133_1 Q k) (fun x => !decide (x.1 ≥ k)) (fun i => some (if i < Q.length then i else -1)) hl (fun i hi => by
    refine (if_pos (ltN hi)).trans ((if_pos (rgN hi)).trans ?_)
    rw [wS i (by omega)]
    show (if (decide ((Q.getD i default).1 ≥ k)) = true then _ else _) = _
    by_cases g : (decide ((Q.getD i default).1 ≥ k)) = true
    · rw [if_pos g, if_neg (by rw [g]; decide), if_pos (by omega)]
    · rw [if_neg g, if_pos (by simpa using g)]) ((if_neg (by simp)).trans (by simp))
  rw [h]
  congr 1
  by_cases g : lead (fun x : Int × Int × Int => !decide (x.1 ≥ k)) Q < Q.length
  · rw [if_pos g, if_pos (by omega)]
  · rw [if_neg g, if_neg (by omega)]
theorem p116 (k : Int) (hl : C.length < 1000000000) : r89 H C Q T a b c d k = some (coolAt C k) := by
  unfold r89 coolAt
  rw [p145 C k hl, Option.bind_some, find_lead]
  by_cases g : lead (fun x : Int × Int × Int × Int × Int => !decide (x.1 ≥ k)) C < C.length
  · rw [if_pos g, if_pos g]
    refine (if_pos (by simp)).trans ((if_pos ⟨by omega, by omega⟩).trans ?_)
    rw [Int.toNat_natCast]
  · rw [if_neg g, if_neg g]
    exact if_neg (by decide)
theorem p117 (k : Int) (hl : Q.length < 1000000000) : r91 H C Q T a b c d k = some (coldAt Q k) := by
  unfold r91 coldAt
  rw [p146 Q k hl, Option.bind_some, find_lead]
  by_cases g : lead (fun x : Int × Int × Int => !decide (x.1 ≥ k)) Q < Q.length
  · rw [if_pos g, if_pos g]
    refine (if_pos (by simp)).trans ((if_pos ⟨by omega, by omega⟩).trans ?_)
    rw [Int.toNat_natCast]
  · rw [if_neg g, if_neg g]
    exact if_neg (by decide)
end
/-- what a steel has of a range -/
def pkV (lo hi part : Int) : Int := lo + ((hi - lo) * part).tdiv 1000
theorem pk_bounds {lo hi part : Int} (h1 : 0 ≤ lo) (h2 : lo ≤ hi) (h3 : hi ≤ 1000000) (h4 : 0 ≤ part) (h5 : part ≤ 1000) :
    lo ≤ pkV lo hi part ∧ pkV lo hi part ≤ hi ∧ 0 ≤ (hi - lo) * part ∧ (hi - lo) * part ≤ (hi - lo) * 1000 := by
  have a1 : 0 ≤ (hi - lo) * part := Int.mul_nonneg (by omega) h4
  have a2 : (hi - lo) * part ≤ (hi - lo) * 1000 := Int.mul_le_mul_of_nonneg_left h5 (by omega)
  unfold pkV
  rw [Int.tdiv_eq_ediv_of_nonneg a1]
  generalize (hi - lo) * part = z at a1 a2
  omega
theorem p115 {lo hi part : Int} (h1 : 0 ≤ lo) (h2 : lo ≤ hi) (h3 : hi ≤ 1000000) (h4 : 0 ≤ part) (h5 : part ≤ 1000) : r125 lo hi part = some (pkV lo hi part) := by
  obtain ⟨b1, b2, b3, b4⟩ := pk_bounds h1 h2 h3 h4 h5
  unfold r125
  rw [wI (a := hi - lo) (by omega) (by omega), wI (a := (hi - lo) * part) (by omega) (by omega)]
  have b5 : 0 ≤ ((hi - lo) * part).tdiv 1000 ∧ ((hi - lo) * part).tdiv 1000 ≤ 1000000 := by
    rw [Int.tdiv_eq_ediv_of_nonneg b3]; generalize (hi - lo) * part = z at b3 b4; omega
  rw [wI (a := ((hi - lo) * part).tdiv 1000) (by omega) (by omega)]
  unfold pkV at b1 b2 ⊢
  rw [wI (by omega) (by omega)]
/-- martensite behind a share -/
def marV (a m sh : Int) : Int := if m < ((a + m) * sh).tdiv 1000000 then ((a + m) * sh).tdiv 1000000 else m
theorem mar_bounds {a m sh : Int} (h1 : 0 ≤ a) (h2 : 0 ≤ m) (h3 : a + m ≤ 2000000) (h4 : 0 ≤ sh) (h5 : sh ≤ 1000000) :
    m ≤ marV a m sh ∧ marV a m sh ≤ a + m ∧ 0 ≤ (a + m) * sh ∧ (a + m) * sh ≤ (a + m) * 1000000 := by
  have a1 : 0 ≤ (a + m) * sh := Int.mul_nonneg (by omega) h4
  have a2 : (a + m) * sh ≤ (a + m) * 1000000 := Int.mul_le_mul_of_nonneg_left h5 (by omega)
  unfold marV
  rw [Int.tdiv_eq_ediv_of_nonneg a1]
  generalize (a + m) * sh = z at a1 a2
  split <;> omega
theorem p118 {a m sh : Int} (h1 : 0 ≤ a) (h2 : 0 ≤ m) (h3 : a + m ≤ 2000000) (h4 : 0 ≤ sh) (h5 : sh ≤ 1000000) : r121 a m sh = some (marV a m sh) := by
  obtain ⟨b1, b2, b3, b4⟩ := mar_bounds h1 h2 h3 h4 h5
  unfold r121 marV
  rw [wI (a := a + m) (by omega) (by omega), wI (a := (a + m) * sh) (by omega) (by omega)]
  have b5 : 0 ≤ ((a + m) * sh).tdiv 1000000 ∧ ((a + m) * sh).tdiv 1000000 ≤ 2000000 := by
    rw [Int.tdiv_eq_ediv_of_nonneg b3]; generalize (a + m) * sh = z at b3 b4; omega
  rw [wI (a := ((a + m) * sh).tdiv 1000000) (by omega) (by omega)]
end Go.Proofs.YtfkmbdfajpdjjaaGreatDoor

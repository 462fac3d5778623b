/- SteelProofs: agreed ranges, pairs, the law. -/
import Derived.Test.YtfkmbdfajpdjjaaDoorSteelPr
set_option linter.unusedVariables false
set_option linter.unusedSimpArgs false
namespace Go.Proofs.YtfkmbdfajpdjjaaDoor
open Go.Abs

def loA (l : List Ev) (i : Nat) : Int := (l.getD i default).2.1
def hiA (l : List Ev) (i : Nat) : Int := (l.getD i default).2.2
/-- the greatest lower end, the least upper one -/
def loN (l : List Ev) : Nat → Int
  | 0 => loA l 0
  | k+1 => if loN l k < loA l (k+1) then loA l (k+1) else loN l k
def hiN (l : List Ev) : Nat → Int
  | 0 => hiA l 0
  | k+1 => if hiA l (k+1) < hiN l k then hiA l (k+1) else hiN l k
theorem loN_ge (l : List Ev) : ∀ m j, j ≤ m → loA l j ≤ loN l m
  | 0, j, h => by obtain rfl : j = 0 := by omega
                  exact Int.le_refl _
  | m+1, j, h => by
    rw [loN]
    by_cases e : j = m + 1
    · subst e; split <;> omega
    · have := loN_ge l m j (by omega)
      split <;> omega
theorem hiN_le (l : List Ev) : ∀ m j, j ≤ m → hiN l m ≤ hiA l j
  | 0, j, h => by obtain rfl : j = 0 := by omega
                  exact Int.le_refl _
  | m+1, j, h => by
    rw [hiN]
    by_cases e : j = m + 1
    · subst e; split <;> omega
    · have := hiN_le l m j (by omega)
      split <;> omega
theorem loN_ex (l : List Ev) : ∀ m, ∃ j, j ≤ m ∧ loN l m = loA l j
  | 0 => ⟨0, Nat.le_refl _, rfl⟩
  | m+1 => by
    obtain ⟨j, h1, h2⟩ := loN_ex l m
    rw [loN]
    split
    · exact ⟨m+1, Nat.le_refl _, rfl⟩
    · exact ⟨j, by omega, h2⟩
theorem hiN_ex (l : List Ev) : ∀ m, ∃ j, j ≤ m ∧ hiN l m = hiA l j
  | 0 => ⟨0, Nat.le_refl _, rfl⟩
  | m+1 => by
    obtain ⟨j, h1, h2⟩ := hiN_ex l m
    rw [hiN]
    split
    · exact ⟨m+1, Nat.le_refl _, rfl⟩
    · exact ⟨j, by omega, h2⟩
theorem tail_getD (l : List Ev) (k i : Nat) (h : k + i < l.length) : ((l.drop k).take (l.length - k)).getD i default = l.getD (k + i) default := by
  rw [List.getD_eq_getElem?_getD, List.getD_eq_getElem?_getD, List.getElem?_take, if_pos (by omega), List.getElem?_drop]
theorem tail_len (l : List Ev) (k : Nat) : ((l.drop k).take (l.length - k)).length = l.length - k := by
  rw [List.length_take, List.length_drop, Nat.min_self]
theorem p46 (l : List Ev) (hs : ∀ x ∈ l, x.1.size ≤ 9223372036854775807) (hl : l.length ≤ 14) : r46 l = some (if evE l = 0 then (if loN l (l.length - 1) > hiN l (l.length - 1) then (0, 0, 13) else (loN l (l.length - 1), hiN l (l.length - 1), 0)) else (0, 0, evE l)) := by
  unfold r46
  rw [p98 l hs, Option.bind_some]
  by_cases e : evE l = 0
  · have h0 : l.length ≠ 0 := by intro h; rw [evE, if_pos h] at e; cases e
    rw [if_pos e, if_neg (by rw [e]; decide), if_pos (by omega), if_pos (by omega)]
    refine iter_meas (b46_1 l) (fun y => ∃ i : Nat, y = ((i : Int), loN l i, hiN l i) ∧ i + 1 ≤ l.length) (fun y => l.length - y.1.toNat) (fun o => o = some (if loN l (l.length - 1) > hiN l (l.length - 1) then (0, 0, 13) else (loN l (l.length - 1), hiN l (l.length - 1), 0))) (fun y hy => ?_) 1000000000 _ ⟨0, rfl, by omega⟩ (by simp; omega)
    obtain ⟨i, rfl, hi⟩ := hy
    unfold b46_1
    simp only
    by_cases g : i + 1 < l.length
    · left
      rw [if_pos (by simp; omega), if_pos (by rw [tail_len]; omega), Int.toNat_natCast, tail_getD l 1 i (by omega), wI (a := (i : Int) + 1) (by omega) (by omega)]
      refine ⟨(((i + 1 : Nat) : Int), loN l (i+1), hiN l (i+1)), ?_, ⟨i+1, rfl, by omega⟩, by show l.length - ((i + 1 : Nat) : Int).toNat < l.length - (i : Int).toNat; omega⟩
      rw [show 1 + i = i + 1 by omega]; rfl
    · right
      obtain rfl : i = l.length - 1 := by omega
      refine ⟨_, if_neg (by simp), ?_⟩
      by_cases c : loN l (l.length - 1) > hiN l (l.length - 1)
      · rw [if_pos c, if_pos (decide_eq_true c)]
      · rw [if_neg c, if_neg (by simpa using c)]
  · rw [if_neg e, if_pos (by simpa using e)]
theorem p50 (l : List Ev) (h0 : l.length ≠ 0) (hl : l.length ≤ 14) : r50 l = some (loN l (l.length - 1), hiN l (l.length - 1), decide (loN l (l.length - 1) ≤ hiN l (l.length - 1))) := by
  unfold r50
  rw [if_pos (by omega)]
  refine iter_meas (b50_1 l) (fun y => ∃ i : Nat, y = ((i : Int), loN l (i-1), hiN l (i-1)) ∧ i ≤ l.length) (fun y => l.length - y.1.toNat) (fun o => o = some (loN l (l.length - 1), hiN l (l.length - 1), decide (loN l (l.length - 1) ≤ hiN l (l.length - 1)))) (fun y hy => ?_) 1000000000 _ ⟨0, rfl, by omega⟩ (by simp; omega)
  obtain ⟨i, rfl, hi⟩ := hy
  unfold b50_1
  simp only
  by_cases g : i < l.length
  · left
    rw [if_pos (by simpa using g), if_pos (by omega), if_pos (by omega), Int.toNat_natCast, wI (a := (i : Int) + 1) (by omega) (by omega)]
    refine ⟨(((i + 1 : Nat) : Int), loN l i, hiN l i), ?_, ⟨i+1, by rw [Nat.add_sub_cancel], by omega⟩, by show l.length - ((i + 1 : Nat) : Int).toNat < l.length - (i : Int).toNat; omega⟩
    cases i with
    | zero => simp [loN, hiN, loA, hiA]
    | succ k => rfl
  · right
    obtain rfl : i = l.length := by omega
    exact ⟨_, if_neg (by simp), rfl⟩
/-- two pieces that have no number in common -/
def conf (l : List Ev) (i k : Nat) : Prop := (if loA l i < loA l k then loA l k else loA l i) > (if hiA l k < hiA l i then hiA l k else hiA l i)
instance (l : List Ev) (i k : Nat) : Decidable (conf l i k) := inferInstanceAs (Decidable (_ > _))
def nm (l : List Ev) (i : Nat) : ByteArray := (l.getD i default).1
def scanP {α : Type} (f : Nat → Option α) : Nat → Nat → Option α
  | _, 0 => none
  | i, k+1 => match f i with
    | some v => some v
    | none => scanP f (i+1) k
theorem scanP_none {α : Type} {f : Nat → Option α} : ∀ (k i : Nat), scanP f i k = none → ∀ j, i ≤ j → j < i + k → f j = none
  | 0, i, _, j, h1, h2 => absurd h1 (by omega)
  | k+1, i, h, j, h1, h2 => by
    rw [scanP] at h
    split at h
    · cases h
    · rename_i e
      by_cases c : j = i
      · rw [c]; exact e
      · exact scanP_none k (i+1) h j (by omega) (by omega)
theorem scanP_some {α : Type} {f : Nat → Option α} {v : α} : ∀ (k i : Nat), scanP f i k = some v → ∃ j, i ≤ j ∧ j < i + k ∧ f j = some v
  | 0, i, h => by cases h
  | k+1, i, h => by
    rw [scanP] at h
    split at h
    · rename_i w e
      exact ⟨i, Nat.le_refl _, by omega, by rw [e]; exact h⟩
    · obtain ⟨j, h1, h2, h3⟩ := scanP_some k (i+1) h
      exact ⟨j, by omega, by omega, h3⟩
def pairI (l : List Ev) (i : Nat) : Option (ByteArray × ByteArray) := scanP (fun k => if conf l i k then some (nm l i, nm l k) else none) (i+1) (l.length - (i+1))
def pairV (l : List Ev) : Option (ByteArray × ByteArray) := scanP (pairI l) 0 l.length
/-- a loop that looks for the first place -/
theorem iter_scanP {α σ ρ : Type} {n a : Nat} {mk : Int → σ} {b : σ → Ctl σ ρ} {f : Nat → Option α} {y : α → Option ρ} {z : Option ρ} {F : Nat} (hn : n < 1000000000) (ha : a ≤ n) (hF : F = 1000000000)
    (step : ∀ i : Nat, a ≤ i → i < n → b (mk i) = match f i with | some v => .out (y v) | none => .next (mk ((i + 1 : Nat) : Int))) (stop : b (mk n) = .out z) (μ : σ → Nat) (hμ : ∀ i : Nat, i ≤ n → μ (mk i) = n - i) :
    iterC b F (mk a) = match scanP f a (n - a) with | some v => y v | none => z := by
  subst hF
  refine iter_meas b (fun x => ∃ i : Nat, x = mk i ∧ a ≤ i ∧ i ≤ n ∧ scanP f i (n - i) = scanP f a (n - a)) μ (fun o => o = match scanP f a (n - a) with | some v => y v | none => z) (fun x hx => ?_) 1000000000 _ ⟨a, rfl, Nat.le_refl _, ha, rfl⟩ (by rw [hμ a ha]; omega)
  obtain ⟨i, rfl, h0, h1, h2⟩ := hx
  by_cases g : i < n
  · rw [step i h0 g]
    rw [show n - i = (n - (i+1)) + 1 by omega, scanP] at h2
    cases e : f i with
    | some v =>
      right
      rw [e] at h2
      exact ⟨_, rfl, by rw [← h2]⟩
    | none =>
      left
      rw [e] at h2
      exact ⟨_, rfl, ⟨i+1, rfl, by omega, g, h2⟩, by rw [hμ _ g, hμ _ h1]; omega⟩
  · right
    obtain rfl : i = n := by omega
    rw [Nat.sub_self, scanP] at h2
    exact ⟨_, stop, by rw [← h2]⟩
theorem p51_2 (l : List Ev) (i : Nat) (hi : i < l.length) (hl : l.length ≤ 14) : iterC (b51_2 l i) 1000000000 ((i + 1 : Nat) : Int) = some (match pairI l i with | some v => .out (some (v.1, v.2, true)) | none => .next ((i + 1 : Nat) : Int)) := by
  have h := iter_scanP (n := l.length) (a := i + 1) (mk := id) (b := b51_2 l i) (f := fun k => if conf l i k then some (nm l i, nm l k) else none) (y := fun v => some (.out (some (v.1, v.2, true)))) (z := some (.next ((i + 1 : Nat) : Int))) (F := 1000000000) (by omega) (by omega) rfl (fun k k0 k1 => ?_) ?_ (fun s => l.length - s.toNat) (fun k hk => by simp)
  · rw [show (id ((i + 1 : Nat) : Int)) = ((i + 1 : Nat) : Int) from rfl] at h
    rw [h]
    show _ = some (match pairI l i with | some v => _ | none => _)
    unfold pairI
    cases scanP (fun k => if conf l i k then some (nm l i, nm l k) else none) (i+1) (l.length - (i+1)) <;> rfl
  · unfold b51_2
    rw [show (id (k : Int)) = (k : Int) from rfl, if_pos (by simpa using k1), if_pos (by omega), if_pos (by omega), if_pos (by omega), if_pos (by omega), Int.toNat_natCast, Int.toNat_natCast, wI (by omega) (by omega)]
    by_cases c : conf l i k
    · rw [if_pos c]; exact (if_pos (decide_eq_true c)).trans ((if_pos (by omega)).trans (if_pos (by omega)))
    · rw [if_neg c]; exact if_neg (fun h9 => c (of_decide_eq_true h9))
  · unfold b51_2
    rw [show (id (l.length : Int)) = (l.length : Int) from rfl, if_neg (by simp), wI (by omega) (by omega)]; rfl
theorem p51 (l : List Ev) (hl : l.length ≤ 14) : r51 l = some (match pairV l with | some v => (v.1, v.2, true) | none => (ByteArray.empty, ByteArray.empty, false)) := by
  unfold r51
  have h := iter_scanP (n := l.length) (a := 0) (mk := id) (b := b51_1 l) (f := pairI l) (y := fun v => some (v.1, v.2, true)) (z := some (ByteArray.empty, ByteArray.empty, false)) (F := 1000000000) (by omega) (by omega) rfl (fun k k0 k1 => ?_) ?_ (fun s => l.length - s.toNat) (fun k hk => by simp)
  · rw [show (id ((0 : Nat) : Int)) = 0 from rfl] at h
    rw [h, Nat.sub_zero]
    unfold pairV
    cases scanP (pairI l) 0 l.length <;> rfl
  · unfold b51_1
    rw [show (id (k : Int)) = (k : Int) from rfl, if_pos (by simpa using k1), wI (by omega) (by omega), show (k : Int) + 1 = ((k + 1 : Nat) : Int) by omega, p51_2 l k k1 hl, Option.getD_some]
    cases pairI l k <;> rfl
  · unfold b51_1
    rw [show (id (l.length : Int)) = (l.length : Int) from rfl, if_neg (by simp)]
theorem p48_2 (l : List Ev) (i : Nat) (hi : i < l.length) (hl : l.length ≤ 14) : iterC (b48_2 l i) 1000000000 0 = some (match pairI l i with | some v => .out (some (v.1, v.2, 0)) | none => .next ((i + 1 : Nat) : Int)) := by
  have w : IntKind.i64.wrap ((i : Int) + 1) = ((i + 1 : Nat) : Int) := by rw [wI (by omega) (by omega)]; rfl
  have h := iter_scanP (n := l.length) (a := i + 1) (mk := fun z => z - ((i + 1 : Nat) : Int)) (b := b48_2 l i) (f := fun k => if conf l i k then some (nm l i, nm l k) else none) (y := fun v => some (.out (some (v.1, v.2, 0)))) (z := some (.next ((i + 1 : Nat) : Int))) (F := 1000000000) (by omega) (by omega) rfl (fun k k0 k1 => ?_) ?_ (fun s => l.length - (s + ((i + 1 : Nat) : Int)).toNat) (fun k hk => by simp)
  · simp only [Int.sub_self] at h
    rw [h]
    show _ = some (match pairI l i with | some v => _ | none => _)
    unfold pairI
    cases scanP (fun k => if conf l i k then some (nm l i, nm l k) else none) (i+1) (l.length - (i+1)) <;> rfl
  · show b48_2 l i ((k : Int) - ((i + 1 : Nat) : Int)) = _
    rw [show (k : Int) - ((i + 1 : Nat) : Int) = ((k - (i+1) : Nat) : Int) by omega]
    unfold b48_2
    simp only [w, Int.toNat_natCast]
    rw [if_pos (by simp; omega), tail_len, if_pos (by omega), tail_getD l (i+1) (k - (i+1)) (by omega), show i + 1 + (k - (i+1)) = k by omega, wI (by omega) (by omega)]
    by_cases c : conf l i k
    · rw [if_pos c]; exact if_pos (decide_eq_true c)
    · rw [if_neg c]
      refine (if_neg (fun h9 => c (of_decide_eq_true h9))).trans ?_
      show Ctl.next _ = Ctl.next _
      congr 1; omega
  · show b48_2 l i ((l.length : Int) - ((i + 1 : Nat) : Int)) = _
    unfold b48_2
    simp only [w, Int.toNat_natCast]
    rw [if_neg (by simp; omega)]
theorem p48 (l : List Ev) (hs : ∀ x ∈ l, x.1.size ≤ 9223372036854775807) (hl : l.length ≤ 14) : r48 l = some (if evE l = 0 then (match pairV l with | some v => (v.1, v.2, 0) | none => (ByteArray.empty, ByteArray.empty, 12)) else (ByteArray.empty, ByteArray.empty, evE l)) := by
  unfold r48
  rw [p98 l hs, Option.bind_some]
  by_cases e : evE l = 0
  · rw [if_pos e, if_neg (by rw [e]; decide)]
    have h := iter_scanP (n := l.length) (a := 0) (mk := id) (b := b48_1 l) (f := pairI l) (y := fun v => some (v.1, v.2, 0)) (z := some (ByteArray.empty, ByteArray.empty, 12)) (F := 1000000000) (by omega) (by omega) rfl (fun k k0 k1 => ?_) ?_ (fun s => l.length - s.toNat) (fun k hk => by simp)
    · rw [show (id ((0 : Nat) : Int)) = 0 from rfl] at h
      rw [h, Nat.sub_zero]
      unfold pairV
      cases scanP (pairI l) 0 l.length <;> rfl
    · unfold b48_1
      rw [show (id (k : Int)) = (k : Int) from rfl, if_pos (by simpa using k1), if_pos (by omega), wI (a := (k : Int) + 1) (by omega) (by omega), if_pos (by omega), p48_2 l k k1 hl, Option.getD_some]
      cases pairI l k <;> rfl
    · unfold b48_1
      rw [show (id (l.length : Int)) = (l.length : Int) from rfl, if_neg (by simp)]
  · rw [if_neg e, if_pos (by simpa using e)]
theorem ev_items {l : List Ev} (e : evE l = 0) : l.length ≠ 0 ∧ l.length ≤ 12 ∧ ∀ i, i < l.length → itemE l i = 0 := by
  unfold evE at e
  by_cases h0 : l.length = 0
  · rw [if_pos h0] at e; cases e
  · rw [if_neg h0] at e
    by_cases h1 : 12 < l.length
    · rw [if_pos h1] at e; cases e
    · rw [if_neg h1] at e
      exact ⟨h0, by omega, fun i hi => scanI_zero _ _ e i (by omega) (by omega)⟩
theorem item_ord {l : List Ev} {i : Nat} (h : itemE l i = 0) : loA l i ≤ hiA l i ∧ nameV (l.getD i default).1 = true ∧ known l i = false ∧ (inR (l.getD i default).2.1 0 3000 && inR (l.getD i default).2.2 0 3000) = true := by
  unfold itemE at h
  split at h
  · rename_i a
    split at h
    · cases h
    · rename_i b
      split at h
      · rename_i c
        split at h
        · rename_i d
          exact ⟨d, a, by simpa using b, c⟩
        · cases h
      · cases h
  · cases h
theorem pair_iff {l : List Ev} (e : evE l = 0) : pairV l = none ↔ loN l (l.length - 1) ≤ hiN l (l.length - 1) := by
  obtain ⟨h0, h1, h2⟩ := ev_items e
  constructor
  · intro hp
    apply Classical.byContradiction
    intro hc
    obtain ⟨i, i1, i2⟩ := loN_ex l (l.length - 1)
    obtain ⟨k, k1, k2⟩ := hiN_ex l (l.length - 1)
    have oi := (item_ord (h2 i (by omega))).1
    have ok := (item_ord (h2 k (by omega))).1
    have bad : ∀ a b, a < b → b < l.length → conf l a b → False := by
      intro a b ab bl c
      have p1 := scanP_none _ _ hp a (by omega) (by omega)
      have p2 := scanP_none _ _ p1 b (by omega) (by omega)
      rw [if_pos c] at p2; cases p2
    rcases Nat.lt_trichotomy i k with g | g | g
    · refine bad i k g (by omega) ?_
      unfold conf
      split <;> split <;> omega
    · subst g; omega
    · refine bad k i g (by omega) ?_
      unfold conf
      split <;> split <;> omega
  · intro hc
    cases hp : pairV l with
    | none => rfl
    | some v =>
      obtain ⟨i, i1, i2, i3⟩ := scanP_some _ _ hp
      obtain ⟨k, k1, k2, k3⟩ := scanP_some _ _ i3
      have c : conf l i k := by
        apply Classical.byContradiction
        intro c
        rw [if_neg c] at k3; cases k3
      have a1 := loN_ge l (l.length - 1) i (by omega)
      have a2 := loN_ge l (l.length - 1) k (by omega)
      have a3 := hiN_le l (l.length - 1) i (by omega)
      have a4 := hiN_le l (l.length - 1) k (by omega)
      unfold conf at c
      split at c <;> split at c <;> omega
theorem tail_ev {l : List Ev} (e : evE l = 0) (h : 2 ≤ l.length) : evE (l.drop 1) = 0 := by
  obtain ⟨h0, h1, h2⟩ := ev_items e
  have hg : ∀ i, (l.drop 1).getD i default = l.getD (i+1) default := fun i => by
    rw [List.getD_eq_getElem?_getD, List.getD_eq_getElem?_getD, List.getElem?_drop, Nat.add_comm]
  unfold evE
  rw [List.length_drop, if_neg (by omega), if_neg (by omega)]
  refine scanI_of _ _ fun i _ hi => ?_
  obtain ⟨q1, q2, q3, q4⟩ := item_ord (h2 (i+1) (by omega))
  have q5 : known (l.drop 1) i = false := by
    unfold known at q3 ⊢
    rw [List.any_eq_false] at q3 ⊢
    intro o ho
    rw [hg]
    refine q3 o ?_
    obtain ⟨j, hj, rfl⟩ := List.getElem_of_mem ho
    rw [List.length_take] at hj
    have : (List.take i (List.drop 1 l))[j] = (l.take (i+1))[j+1]'(by rw [List.length_take]; rw [List.length_drop] at hj; omega) := by
      simp [List.getElem_take, List.getElem_drop, Nat.add_comm]
    rw [this]
    exact List.getElem_mem _
  unfold itemE
  rw [hg, if_pos q2, q5, if_neg (by decide), if_pos q4]
  exact if_pos q1
theorem proofs (l : List Ev) (hs : ∀ x ∈ l, x.1.size ≤ 9223372036854775807) : r10 l = some true := by
  unfold r10
  rw [awake, Option.bind_some, if_neg (by decide)]
  by_cases hl : 14 < l.length
  · rw [if_pos (decide_eq_true (by omega))]
  · rw [if_neg (by simp only [decide_eq_true_eq]; omega), p47 l (by omega), Option.bind_some, p46 l hs (by omega), Option.bind_some, p48 l hs (by omega), Option.bind_some, p49, Option.bind_some]
    by_cases e : evE l = 0
    · obtain ⟨h0, h1, h2⟩ := ev_items e
      rw [if_pos e, if_pos e, if_neg (by rw [e]; decide), p50 l h0 (by omega), Option.bind_some, p51 l (by omega), Option.bind_some]
      have hp := pair_iff e
      by_cases c : loN l (l.length - 1) ≤ hiN l (l.length - 1)
      · rw [hp.mpr c, if_neg (by omega : ¬ loN l (l.length - 1) > hiN l (l.length - 1)), decide_eq_true c]
        simp only
        rw [if_neg (by simp)]
        by_cases g : l.length < 2
        · rw [if_pos (by simp; omega)]
        · rw [if_neg (by simp; omega), if_pos (by omega)]
          have ht : (l.drop 1).take (l.length - 1) = l.drop 1 := by rw [List.take_of_length_le (by rw [List.length_drop]; omega)]
          have hd : (l.drop 1).length = l.length - 1 := List.length_drop
          have et := tail_ev e (by omega)
          have hg : ∀ i, (l.drop 1).getD i default = l.getD (i+1) default := fun i => by
            rw [List.getD_eq_getElem?_getD, List.getD_eq_getElem?_getD, List.getElem?_drop, Nat.add_comm]
          obtain ⟨j, j1, j2⟩ := loN_ex (l.drop 1) ((l.drop 1).length - 1)
          obtain ⟨k, k1, k2⟩ := hiN_ex (l.drop 1) ((l.drop 1).length - 1)
          have a1 := loN_ge l (l.length - 1) (j+1) (by omega)
          have a2 := hiN_le l (l.length - 1) (k+1) (by omega)
          have a3 : loA (l.drop 1) j = loA l (j+1) := by unfold loA; rw [hg]
          have a4 : hiA (l.drop 1) k = hiA l (k+1) := by unfold hiA; rw [hg]
          rw [ht, p47 _ (by omega), Option.bind_some, p46 _ (fun x hx => hs x (List.mem_of_mem_drop hx)) (by omega), Option.bind_some, if_pos et, if_neg (by omega)]
          have b1 : (decide (loN (l.drop 1) ((l.drop 1).length - 1) ≤ loN l (l.length - 1))) = true := decide_eq_true (by omega)
          have b2 : (decide (hiN l (l.length - 1) ≤ hiN (l.drop 1) ((l.drop 1).length - 1))) = true := decide_eq_true (by omega)
          simp only [b1, b2]; rfl
      · cases hv : pairV l with
        | none => exact absurd (hp.mp hv) c
        | some v =>
          rw [if_pos (by omega : loN l (l.length - 1) > hiN l (l.length - 1)), decide_eq_false c]
          simp only
          rw [if_neg (by simp), if_pos (by simp)]
    · rw [if_neg e, if_neg e, if_pos (by simpa using e)]
      simp
end Go.Proofs.YtfkmbdfajpdjjaaDoor

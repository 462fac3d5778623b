/- The numbers of any size: trimmed, made, compared, added, subtracted. -/
import Derived.Test.YtfmjhllkheapeaaF03
import Derived.Test.YtfmjhllkheapeaaInsB
set_option linter.unusedVariables false
set_option linter.unusedSimpArgs false
namespace Go.Proofs.Ytfmjhllkheapeaa
open Go.Abs

theorem wI {a : Int} (h1 : -9223372036854775808 ≤ a) (h2 : a ≤ 9223372036854775807) : IntKind.i64.wrap a = a := IntWalk.i64_in _ ⟨by omega, by omega⟩
/-- a loop with something that holds, and something that falls -/
theorem iter_meas {σ ρ : Type} (b : σ → Ctl σ ρ) (I : σ → Prop) (μ : σ → Nat) (G : Option ρ → Prop)
    (step : ∀ s, I s → (∃ s', b s = .next s' ∧ I s' ∧ μ s' < μ s) ∨ (∃ o, b s = .out o ∧ G o)) : ∀ (fuel : Nat) (s : σ), I s → μ s < fuel → G (iterC b fuel s)
  | 0, s, _, h => absurd h (by omega)
  | k + 1, s, hi, h => by
    rcases step s hi with ⟨s', h1, h2, h3⟩ | ⟨o, h1, h2⟩
    · simp only [iterC, h1]
      exact iter_meas b I μ G step k s' h2 (by omega)
    · simp only [iterC, h1]; exact h2
theorem gD (l : List Int) (i : Nat) : l.getD i default = l.getD i 0 := rfl

theorem trim_snoc0 (l : List Int) : trim (l ++ [0]) = trim l := by
  induction l with
  | nil => rfl
  | cons d l ih => simp only [List.cons_append, trim, ih]
theorem trim_snoc (l : List Int) {d : Int} (h : d ≠ 0) : trim (l ++ [d]) = l ++ [d] := by
  induction l with
  | nil => simp [trim, h]
  | cons e l ih => rw [List.cons_append, trim, ih, if_neg (by simp)]
theorem take_snoc (l : List Int) {i : Nat} (h : i < l.length) : l.take (i+1) = l.take i ++ [l.getD i 0] := by
  rw [List.take_add_one, List.getD_eq_getElem?_getD, List.getElem?_eq_getElem h]; rfl
theorem p59 (l : List Int) (hl : l.length < 1000000000) : r59 l = some (trim l) := by
  unfold r59
  refine iter_meas (b59_1 l) (fun s => ∃ n : Nat, s = n ∧ n ≤ l.length ∧ trim (l.take n) = trim l) (fun s => s.toNat) (fun o => o = some (trim l)) (fun s hs => ?_) 1000000000 _ ⟨l.length, rfl, Nat.le_refl _, by rw [List.take_length]⟩ (by simpa using hl)
  obtain ⟨n, rfl, h1, h2⟩ := hs
  unfold b59_1
  cases n with
  | zero =>
    right
    refine ⟨_, (if_pos (by intro h; simp at h)).trans (if_neg (by simp)), ?_⟩
    rw [if_pos (by omega)]
    rw [List.take_zero] at h2
    show some (l.take 0) = _
    rw [List.take_zero, ← h2]; rfl
  | succ n =>
    have e1 : IntKind.i64.wrap (((n + 1 : Nat) : Int) - 1) = (n : Int) := by rw [wI (by omega) (by omega)]; omega
    rw [e1, Int.toNat_natCast, gD, if_pos (by intro _; omega)]
    rw [take_snoc l (by omega)] at h2
    by_cases g : l.getD n 0 = 0
    · left
      refine ⟨_, if_pos (by rw [g]; simp), ⟨n, rfl, by omega, ?_⟩, by simp⟩
      rw [← h2, g, trim_snoc0]
    · right
      refine ⟨_, if_neg (by simp only [Bool.and_eq_true, not_and, beq_iff_eq]; intro _; exact g), ?_⟩
      rw [if_pos (by omega), ← h2, trim_snoc _ g, Int.toNat_natCast, take_snoc l (by omega)]
theorem p46 (s : Int) (l : List Int) (hl : l.length < 1000000000) : r46 s l = some (wV s l) := by
  rw [r46, p59 l hl, Option.bind_some, wV]
  by_cases g : trim l = []
  · rw [if_pos g, g]; rfl
  · rw [if_neg g, if_neg (by simpa using g)]
theorem p45 {a : Int} (h0 : 0 ≤ a) (h : a ≤ 1000000000000000000) : r45 a = some a := by
  rw [r45, wI (by omega) (by omega)]
  by_cases e : a = 0
  · subst e; rfl
  · rw [if_neg (by omega)]
theorem len_step {n : Nat} (h : 0 < n) : (digs n).length = (digs (n / 1000000000)).length + 1 := by rw [digs_pos h]; rfl
theorem p30 {n : Int} (h0 : 0 ≤ n) (h : n ≤ 1000000000000000000) : r30 n = some (W n) := by
  unfold r30
  rw [if_neg (by simpa using h0)]
  have hP : P 3 = 1000000000000000000000000000 := rfl
  have hl : ∀ m : Int, 0 ≤ m → m ≤ n → (digs m.toNat).length ≤ 3 := fun m h1 h2 => len_digs (by rw [hP]; omega)
  refine iter_meas b30_2 (fun s => 0 ≤ s.1 ∧ s.1 ≤ n ∧ Dig s.2 ∧ s.2.length + (digs s.1.toNat).length ≤ 3 ∧ val s.2 + P s.2.length * s.1 = n) (fun s => (digs s.1.toNat).length) (fun o => o = some (W n)) (fun s hs => ?_) 1000000000 _ ⟨h0, Int.le_refl _, Dig.nil, by simpa using hl n h0 (Int.le_refl _), by simp [val, P_zero]⟩ (by have := hl n h0 (Int.le_refl _); show (digs n.toNat).length < _; omega)
  obtain ⟨m, l⟩ := s
  obtain ⟨h1, h2, h3, h4, h5⟩ := hs
  simp only at h1 h2 h3 h4 h5
  unfold b30_2
  by_cases e : m = 0
  · right
    subst e
    refine ⟨_, if_neg (by simp), ?_⟩
    have : val l = n := by omega
    rw [p46 1 l (by omega), Option.bind_some, wV_one h3, this]
  · left
    have h6 := len_step (n := m.toNat) (by omega)
    have e1 : m.tmod 1000000000 = m % 1000000000 := by rw [Int.tmod_eq_emod_of_nonneg h1]
    have e2 : m.tdiv 1000000000 = m / 1000000000 := by rw [Int.tdiv_eq_ediv_of_nonneg h1]
    have e3 : (m / 1000000000).toNat = m.toNat / 1000000000 := by omega
    refine ⟨(m / 1000000000, l ++ [m % 1000000000]), ?_, ⟨?_, ?_, ?_, ?_, ?_⟩, ?_⟩
    · simp only
      rw [if_pos (by simpa using e), e1, e2, p45 (by omega) (by omega)]
      simp only [bindC]
      rw [if_pos (by omega), wI (by omega) (by omega)]
    · show 0 ≤ m / 1000000000; omega
    · show m / 1000000000 ≤ n; omega
    · exact h3.snoc (by omega) (by omega)
    · show (l ++ [m % 1000000000]).length + (digs (m / 1000000000).toNat).length ≤ 3
      rw [List.length_append, List.length_singleton, e3]; omega
    · show val (l ++ [m % 1000000000]) + P (l ++ [m % 1000000000]).length * (m / 1000000000) = n
      rw [val_snoc, List.length_append, List.length_singleton, P_succ, ← h5]
      have : m = m % 1000000000 + 1000000000 * (m / 1000000000) := by omega
      generalize m % 1000000000 = x at this ⊢
      generalize m / 1000000000 = y at this ⊢
      rw [this]; grind
    · show (digs (m / 1000000000).toNat).length < (digs m.toNat).length
      rw [e3]; omega

theorem drop_len {a : List Int} {i : Nat} (h : i < a.length) : a.drop i = a.getD i 0 :: a.drop (i+1) := by
  rw [List.drop_eq_getElem_cons h, List.getD_eq_getElem?_getD, List.getElem?_eq_getElem h, Option.getD_some]
theorem sgn_neg {z : Int} (h : z < 0) : z.sign = -1 := Int.sign_eq_neg_one_of_neg h
theorem sgn_pos {z : Int} (h : 0 < z) : z.sign = 1 := Int.sign_eq_one_of_pos h
theorem p52 {a b : List Int} (ha : Can a) (hb : Can b) (hl : a.length < 1000000000) (hm : b.length < 1000000000) : r52 a b = some (val a - val b).sign := by
  unfold r52
  by_cases e : a.length = b.length
  · rw [if_neg (by rw [e]; simp)]
    refine iter_meas (b52_1 a b) (fun s => ∃ n : Nat, s = (n : Int) - 1 ∧ n ≤ a.length ∧ a.drop n = b.drop n) (fun s => (s + 1).toNat) (fun o => o = some (val a - val b).sign) (fun s hs => ?_) 1000000000 _ ⟨a.length, by rw [wI (by omega) (by omega)], Nat.le_refl _, by rw [List.drop_length, e, List.drop_length]⟩ (by rw [wI (by omega) (by omega)]; omega)
    obtain ⟨n, rfl, h1, h2⟩ := hs
    unfold b52_1
    cases n with
    | zero =>
      right
      refine ⟨_, if_neg (by simp), ?_⟩
      rw [List.drop_zero, List.drop_zero] at h2
      rw [h2, Int.sub_self]; rfl
    | succ n =>
      have e1 : ((n + 1 : Nat) : Int) - 1 = (n : Int) := by omega
      rw [e1, Int.toNat_natCast, gD, gD, if_pos (by simp), if_pos (by omega), if_pos (by omega)]
      by_cases g : a.getD n 0 < b.getD n 0
      · right
        refine ⟨_, if_pos (by simpa using g), ?_⟩
        have := val_top ha.1 hb.1 e (by omega) h2 g
        rw [sgn_neg (by omega)]
      · by_cases g2 : b.getD n 0 < a.getD n 0
        · right
          refine ⟨_, (if_neg (by simpa using g)).trans ((if_pos (by omega)).trans ((if_pos (by omega)).trans (if_pos (by simpa using g2)))), ?_⟩
          have := val_top hb.1 ha.1 e.symm (by omega) h2.symm g2
          rw [sgn_pos (by omega)]
        · left
          refine ⟨_, (if_neg (by simpa using g)).trans ((if_pos (by omega)).trans ((if_pos (by omega)).trans (if_neg (by simpa using g2)))), ⟨n, by rw [wI (by omega) (by omega)], by omega, ?_⟩, by rw [wI (by omega) (by omega)]; omega⟩
          rw [drop_len (a := a) (i := n) (by omega), drop_len (a := b) (i := n) (by omega), h2, show a.getD n 0 = b.getD n 0 by omega]
  · rw [if_pos (by simp; omega)]
    by_cases g : a.length < b.length
    · rw [if_pos (by simp; omega), sgn_neg (by have := can_lt ha hb g; omega)]
    · rw [if_neg (by simp; omega), sgn_pos (by have := can_lt hb ha (by omega); omega)]
theorem getD_big {l : List Int} {i : Nat} (h : l.length ≤ i) : l.getD i 0 = 0 := by
  rw [List.getD_eq_getElem?_getD, List.getElem?_eq_none h, Option.getD_none]
theorem p61 (l : List Int) (i : Nat) : r61 l i = some (l.getD i 0) := by
  unfold r61
  by_cases e : i < l.length
  · rw [if_pos (by simpa using e), if_pos (by omega), Int.toNat_natCast]; rfl
  · rw [if_neg (by simpa using e), getD_big (by omega)]
theorem p51 {a b : List Int} (ha : Dig a) (hb : Dig b) (hl : a.length ≤ 100000000) (hm : b.length ≤ 100000000) : ∃ l, r51 a b = some l ∧ Dig l ∧ l.length ≤ max a.length b.length + 1 ∧ val l = val a + val b := by
  unfold r51
  refine iter_meas (b51_1 a b) (fun s => ∃ i : Nat, s.2.2 = i ∧ i ≤ max a.length b.length + 1 ∧ s.1.length = i ∧ Dig s.1 ∧ 0 ≤ s.2.1 ∧ s.2.1 ≤ 1 ∧ (i = max a.length b.length + 1 → s.2.1 = 0) ∧ val s.1 + P i * s.2.1 = val (a.take i) + val (b.take i))
    (fun s => (max a.length b.length + 1 : Nat) - s.2.2.toNat) (fun o => ∃ l, o = some l ∧ Dig l ∧ l.length ≤ max a.length b.length + 1 ∧ val l = val a + val b) (fun s hs => ?_) 1000000000 _ ⟨0, rfl, by omega, rfl, Dig.nil, Int.le_refl _, by decide, by intro _; rfl, by simp [val]⟩ (by simp; omega)
  obtain ⟨l, c, z⟩ := s
  obtain ⟨i, h1, h2, h3, h4, h5, h6, h7, h8⟩ := hs
  simp only at h1 h3 h4 h5 h6 h7 h8
  subst h1
  unfold b51_1
  simp only
  have hx := ha.get i
  have hy := hb.get i
  have hxa := fun h : a.length ≤ i => getD_big h
  have hxb := fun h : b.length ≤ i => getD_big h
  by_cases g : i < a.length ∨ i < b.length ∨ 0 < c
  · left
    have g1 : (((decide ((i : Int) < (a.length : Int))) || (decide ((i : Int) < (b.length : Int)))) || (decide (c > 0))) = true := by simp; omega
    rw [if_pos g1, p61, p61]
    simp only [bindC]
    generalize hX : a.getD i 0 = x at *
    generalize hY : b.getD i 0 = y at *
    have e1 : IntKind.i64.wrap (IntKind.i64.wrap (x + y) + c) = x + y + c := by rw [wI (a := x + y) (by omega) (by omega), wI (by omega) (by omega)]
    have e2 : (x + y + c).tmod 1000000000 = (x + y + c) % 1000000000 := by rw [Int.tmod_eq_emod_of_nonneg (by omega)]
    have e3 : (x + y + c).tdiv 1000000000 = (x + y + c) / 1000000000 := by rw [Int.tdiv_eq_ediv_of_nonneg (by omega)]
    rw [if_pos (by omega), e1, e2, e3, wI (a := (x+y+c)/1000000000) (by omega) (by omega), wI (a := (i:Int)+1) (by omega) (by omega)]
    refine ⟨_, rfl, ⟨i+1, by simp, ?_, ?_, ?_, ?_, ?_, ?_, ?_⟩, ?_⟩
    · omega
    · simp [h3]
    · exact h4.snoc (by omega) (by omega)
    · show 0 ≤ (x+y+c)/1000000000; omega
    · show (x+y+c)/1000000000 ≤ 1; omega
    · intro e
      show (x+y+c)/1000000000 = 0
      have := hxa (by omega); have := hxb (by omega); omega
    · show val (l ++ [(x+y+c) % 1000000000]) + P (i+1) * ((x+y+c)/1000000000) = _
      rw [val_take, val_take, hX, hY, val_snoc, h3, P_succ]
      have : x + y + c = (x+y+c) % 1000000000 + 1000000000 * ((x+y+c) / 1000000000) := by omega
      generalize (x+y+c) % 1000000000 = u at this ⊢
      generalize (x+y+c) / 1000000000 = v at this ⊢
      have h9 : val l + P i * u + 1000000000 * P i * v = (val l + P i * c) + P i * (x + y) := by
        have : P i * (u + 1000000000 * v) = P i * (x + y + c) := by rw [this]
        grind
      rw [h9, h8]; grind
    · show max a.length b.length + 1 - ((i:Int)+1).toNat < max a.length b.length + 1 - (i:Int).toNat
      omega
  · right
    have g1 : ¬ (((decide ((i : Int) < (a.length : Int))) || (decide ((i : Int) < (b.length : Int)))) || (decide (c > 0))) = true := by simp; omega
    refine ⟨_, if_neg g1, l, rfl, h4, by omega, ?_⟩
    have hc : c = 0 := by omega
    rw [hc, List.take_of_length_le (by omega), List.take_of_length_le (by omega)] at h8
    omega
theorem p53 {a b : List Int} (ha : Dig a) (hb : Dig b) (hl : a.length ≤ 100000000) (hm : b.length ≤ a.length) (hle : val b ≤ val a) : r53 a b = some (digs (val a - val b).toNat) := by
  unfold r53
  refine iter_meas (b53_1 a b) (fun s => ∃ i : Nat, s.2.2 = i ∧ i ≤ a.length ∧ s.1.length = i ∧ Dig s.1 ∧ 0 ≤ s.2.1 ∧ s.2.1 ≤ 1 ∧ val s.1 - P i * s.2.1 = val (a.take i) - val (b.take i))
    (fun s => a.length - s.2.2.toNat) (fun o => o = some (digs (val a - val b).toNat)) (fun s hs => ?_) 1000000000 _ ⟨0, rfl, by omega, rfl, Dig.nil, Int.le_refl _, by decide, by simp [val]⟩ (by simp; omega)
  obtain ⟨l, c, z⟩ := s
  obtain ⟨i, h1, h2, h3, h4, h5, h6, h8⟩ := hs
  simp only at h1 h3 h4 h5 h6 h8
  subst h1
  unfold b53_1
  simp only
  have hx := ha.get i
  have hy := hb.get i
  by_cases g : i < a.length
  · left
    rw [if_pos (by simpa using g), if_pos (by omega), p61, Int.toNat_natCast, gD]
    simp only [bindC]
    generalize hX : a.getD i 0 = x at *
    generalize hY : b.getD i 0 = y at *
    have e1 : IntKind.i64.wrap (IntKind.i64.wrap (x - y) - c) = x - y - c := by rw [wI (a := x - y) (by omega) (by omega), wI (by omega) (by omega)]
    have key : ∀ u v : Int, x - y - c = u - 1000000000 * v → val (l ++ [u]) - P (i+1) * v = val (a.take (i+1)) - val (b.take (i+1)) := by
      intro u v h
      rw [val_take, val_take, hX, hY, val_snoc, h3, P_succ]
      have : P i * (u - 1000000000 * v) = P i * (x - y - c) := by rw [h]
      grind
    rw [e1]
    by_cases g2 : x - y - c < 0
    · refine ⟨(l ++ [x - y - c + 1000000000], 1, (i:Int)+1), ?_, ⟨i+1, by simp, g, by simp [h3], h4.snoc (by omega) (by omega), (by decide : (0:Int) ≤ 1), (by decide : (1:Int) ≤ 1), key (x - y - c + 1000000000) 1 (by omega)⟩, ?_⟩
      · rw [if_pos (by simpa using g2), if_pos (by omega), wI (a := x - y - c + 1000000000) (by omega) (by omega), wI (a := (i:Int)+1) (by omega) (by omega)]
      · show a.length - ((i:Int)+1).toNat < a.length - (i:Int).toNat
        omega
    · refine ⟨(l ++ [x - y - c], 0, (i:Int)+1), ?_, ⟨i+1, by simp, g, by simp [h3], h4.snoc (by omega) (by omega), (by decide : (0:Int) ≤ 0), (by decide : (0:Int) ≤ 1), key (x - y - c) 0 (by omega)⟩, ?_⟩
      · rw [if_neg (by simpa using g2), if_pos (by omega), wI (a := (i:Int)+1) (by omega) (by omega)]
      · show a.length - ((i:Int)+1).toNat < a.length - (i:Int).toNat
        omega
  · right
    refine ⟨_, if_neg (by simpa using g), ?_⟩
    have hi : i = a.length := by omega
    rw [List.take_of_length_le (by omega), List.take_of_length_le (by omega)] at h8
    have h9 := val_lt h4
    rw [h3] at h9
    have hc : c = 0 := by
      apply Classical.byContradiction
      intro hc
      have : c = 1 := by omega
      subst this
      omega
    subst hc
    rw [p59 l (by omega), Option.bind_some, trim_digs h4, show val l = val a - val b by omega]

/-- how many digits a number has -/
def ln (z : Int) : Nat := (digs z.natAbs).length
theorem can_W (z : Int) : Can (W z).2 := can_digs _
theorem val_W (z : Int) : val (W z).2 = z.natAbs := val_digs _
theorem wV_digs (s : Int) (n : Nat) : wV s (digs n) = if n = 0 then (0, []) else (s, digs n) := by
  rw [wV, (can_digs n).2]
  by_cases e : n = 0
  · rw [if_pos e]; exact if_pos (by rw [digs_nil]; exact e)
  · rw [if_neg e]; exact if_neg (by rw [digs_nil]; exact e)
theorem len_mono {a b : Nat} (h : a ≤ b) : (digs a).length ≤ (digs b).length := by
  apply Classical.byContradiction
  intro g
  have := can_lt (can_digs b) (can_digs a) (by omega)
  rw [val_digs, val_digs] at this
  omega
theorem p32 {x y : Int} (hx : ln x ≤ 100000000) (hy : ln y ≤ 100000000) : r32 (W x).1 (W x).2 (W y).1 (W y).2 = some (W (x + y)) := by
  unfold r32
  have hlx : (W x).2.length ≤ 100000000 := hx
  have hly : (W y).2.length ≤ 100000000 := hy
  by_cases x0 : x = 0
  · subst x0; rw [if_pos (by rfl), Int.zero_add]
  by_cases y0 : y = 0
  · subst y0; rw [if_neg (by rw [W_sign]; simpa using x0), if_pos (by rfl), Int.add_zero]
  rw [if_neg (by rw [W_sign]; simpa using x0), if_neg (by rw [W_sign]; simpa using y0)]
  have cx := can_W x
  have cy := can_W y
  have vx := val_W x
  have vy := val_W y
  by_cases hs : x.sign = y.sign
  · rw [if_pos (by rw [W_sign, W_sign]; simpa using hs)]
    obtain ⟨l, h1, h2, h3, h4⟩ := p51 cx.1 cy.1 hlx hly
    rw [h1, Option.bind_some, p46 _ l (by omega), Option.bind_some]
    rcases Int.lt_or_gt_of_ne x0 with g | g
    · have gy : y < 0 := by
        rw [sgn_neg g] at hs
        exact Int.sign_eq_neg_one_iff_neg.mp hs.symm
      rw [W_sign, sgn_neg g, wV_neg h2, h4, vx, vy]
      exact congrArg (fun z => some (W z)) (by omega)
    · have gy : 0 < y := by
        rw [sgn_pos g] at hs
        exact Int.sign_eq_one_iff_pos.mp hs.symm
      rw [W_sign, sgn_pos g, wV_one h2, h4, vx, vy]
      exact congrArg (fun z => some (W z)) (by omega)
  · rw [if_neg (by rw [W_sign, W_sign]; simpa using hs), p52 cx cy (by omega) (by omega), vx, vy, Option.bind_some]
    have opp : (x < 0 ∧ 0 < y) ∨ (0 < x ∧ y < 0) := by
      rcases Int.lt_or_gt_of_ne x0 with g | g <;> rcases Int.lt_or_gt_of_ne y0 with g2 | g2
      · exact absurd (by rw [sgn_neg g, sgn_neg g2]) hs
      · exact .inl ⟨g, g2⟩
      · exact .inr ⟨g, g2⟩
      · exact absurd (by rw [sgn_pos g, sgn_pos g2]) hs
    rcases Int.lt_trichotomy (x.natAbs : Int) y.natAbs with g | g | g
    · rw [sgn_neg (by omega), if_neg (by decide), if_neg (by decide), p53 cy.1 cx.1 hly (by have := len_mono (show x.natAbs ≤ y.natAbs by omega); exact this) (by omega), vx, vy, Option.bind_some, p46 _ _ (by have := len_mono (show ((y.natAbs : Int) - x.natAbs).toNat ≤ y.natAbs by omega); have h : (digs y.natAbs).length ≤ 100000000 := hy; omega), Option.bind_some, W_sign, wV_digs, if_neg (by omega)]
      congr 1
      rcases opp with ⟨o1, o2⟩ | ⟨o1, o2⟩
      · rw [W_pos (by omega), sgn_pos o2]; exact congrArg (fun n => (_, digs n)) (by omega)
      · rw [W_neg (by omega), sgn_neg o2]; exact congrArg (fun n => (_, digs n)) (by omega)
    · rw [show (x.natAbs : Int) - y.natAbs = 0 by omega, show x + y = 0 by omega, W_zero]; rfl
    · rw [sgn_pos (by omega), if_neg (by decide), if_pos (by decide), p53 cx.1 cy.1 hlx (by have := len_mono (show y.natAbs ≤ x.natAbs by omega); exact this) (by omega), vx, vy, Option.bind_some, p46 _ _ (by have := len_mono (show ((x.natAbs : Int) - y.natAbs).toNat ≤ x.natAbs by omega); have h : (digs x.natAbs).length ≤ 100000000 := hx; omega), Option.bind_some, W_sign, wV_digs, if_neg (by omega)]
      congr 1
      rcases opp with ⟨o1, o2⟩ | ⟨o1, o2⟩
      · rw [W_neg (by omega), sgn_neg o1]; exact congrArg (fun n => (_, digs n)) (by omega)
      · rw [W_pos (by omega), sgn_pos o1]; exact congrArg (fun n => (_, digs n)) (by omega)
end Go.Proofs.Ytfmjhllkheapeaa

/- Field: which voltages are accepted, by the code and by the reference. -/
import Derived.Test.YtagnplbfdaifkaaFieldF
import Derived.Test.YtagnplbfdaifkaaF19
import Derived.Test.YtagnplbfdaifkaaF03
set_option linter.unusedVariables false
set_option linter.unusedSimpArgs false
namespace Go.Proofs.Ytagnplbfdaifkaa
open Go.Abs

theorem dropC {α : Type} [Inhabited α] {l : List α} {k : Nat} (h : k < l.length) : l.drop k = l.getD k default :: l.drop (k + 1) := by
  rw [List.drop_eq_getElem_cons h, List.getD_eq_getElem?_getD, List.getElem?_eq_getElem h]; rfl
theorem pairEq (a b : Int × Int) : ((a.1 == b.1) && (a.2 == b.2)) = decide (a = b) := by
  obtain ⟨a1, a2⟩ := a
  obtain ⟨b1, b2⟩ := b
  simp only [Prod.mk.injEq]
  by_cases h1 : a1 = b1 <;> by_cases h2 : a2 = b2 <;> simp [h1, h2]
theorem p58 (l m : List (Int × Int)) (hl : l.length ≤ 1000000) : r58 l m = some (decide (l = m)) := by
  unfold r58
  by_cases hn : l.length = m.length
  · rw [if_neg (by simp [hn])]
    have key := iter_suf l.length (b58_1 l m) (fun i => (i : Int)) (fun i => some (decide (l.drop i = m.drop i))) (by omega) (fun i hi => by
      have hm : i < m.length := by omega
      have e1 := dropC hi
      have e2 := dropC hm
      simp only [b58_1, ltN hi, if_true, if_pos (rgN hi), if_pos (rgN hm), Int.toNat_natCast, wS i (by omega), pairEq]
      by_cases hx : l.getD i default = m.getD i default
      · left
        refine ⟨by rw [if_neg (by simpa using hx)]; rfl, ?_⟩
        rw [e1, e2, hx]
        simp
      · right
        rw [if_pos (by simpa using hx)]
        have : ¬ (l.drop i = m.drop i) := by
          rw [e1, e2]
          intro h
          injection h with h1 h2
          exact hx h1
        simp [this]) (by
      unfold b58_1
      rw [if_neg (by simp), List.drop_length, hn, List.drop_length]; simp)
    exact key
  · rw [if_pos (by simpa using fun h => hn (by omega))]
    have : ¬ (l = m) := fun h => hn (by rw [h])
    simp [this]
variable {T : Int} {L : List (Int × Int × Int)} {f : Int} {H : List Bool}
theorem Ok.lenc' (ok : Ok T L f H) : 1 ≤ (condsV L).length ∧ (condsV L).length ≤ 4 := by
  rw [condsV_len]; exact ⟨ok.lad.pos, ok.lad.le⟩
theorem p32 (T : Int) (L : List (Int × Int × Int)) (f : Int) (H : List Bool) : r32 T L f H = some (if bothE T L f H = 0 then ((solV (condsV L) (reactV f L H)).1, 0) else ([], bothE T L f H)) := by
  unfold r32
  rw [p83, Option.bind_some]
  by_cases h : bothE T L f H = 0
  · simp only [if_pos h]
    rw [if_neg (by simp), p84 (ok_of h).ladr (ok_of h).lenc'.1 (ok_of h).lenc'.2]; rfl
  · simp only [if_neg h]
    rw [if_pos (by simpa using h)]
theorem p53 (T : Int) (L : List (Int × Int × Int)) (f : Int) (H : List Bool) : r53 T L f H = some (if bothE T L f H = 0 then ((solV (condsV L) (reactV f L H)).2, 0) else ([], bothE T L f H)) := by
  unfold r53
  rw [p83, Option.bind_some]
  by_cases h : bothE T L f H = 0
  · simp only [if_pos h]
    rw [if_neg (by simp), p84 (ok_of h).ladr (ok_of h).lenc'.1 (ok_of h).lenc'.2]; rfl
  · simp only [if_neg h]
    rw [if_pos (by simpa using h)]
theorem p55 (l : List (Int × Int)) (h : l.length ≤ 1000000) : r55 l = some l := by
  unfold r55; rw [if_pos ⟨by omega, by omega⟩]
theorem p113 (a : Int) : r113 a = some (inR a (-1000000000) 1000000000) := rfl

/-- a number of a voltage -/
def partB (v : Int × Int) : Bool := inR v.1 (-1000000000) 1000000000 && inR v.2 (-1000000000) 1000000000
theorem partB_bd {v : Int × Int} (h : partB v = true) : Bd 1000000000 v := by
  simp only [partB, Bool.and_eq_true, inR_iff] at h
  exact ⟨h.1.1, h.1.2, h.2.1, h.2.2⟩
theorem curL_bd : ∀ {cs : List Int} {l : List (Int × Int)}, (∀ c ∈ cs, 1 ≤ c ∧ c ≤ 4) → (∀ v ∈ l, Bd 1000000000 v) → Bd (4000000000 * cs.length) (curL cs l)
  | [], l, _, _ => by simp [curL, Bd]
  | c :: cs, [], _, _ => by simp only [curL, Bd, List.length_cons]; omega
  | c :: cs, v :: l, hc, hl => by
    have ih := curL_bd (cs := cs) (l := l) (fun y hy => hc y (List.mem_cons_of_mem _ hy)) (fun y hy => hl y (List.mem_cons_of_mem _ hy))
    obtain ⟨v1, v2, v3, v4⟩ := hl v (List.mem_cons_self ..)
    have c1 := hc c (List.mem_cons_self ..)
    have e1 := mulB (by omega) c1.2 v1 v2
    have e2 := mulB (by omega) c1.2 v3 v4
    obtain ⟨i1, i2, i3, i4⟩ := ih
    simp only [curL, curV, Bd, List.length_cons]
    omega
/-- one node, in the code, for voltages that are given -/
theorem p116g {cs xs : List Int} {k : Nat} (hk : k < cs.length) (hx : k < xs.length) {v i : Int × Int} (hc : 1 ≤ cs.getD k default ∧ cs.getD k default ≤ 4) (hxx : 1 ≤ xs.getD k default ∧ xs.getD k default ≤ 32) (hv : Bd 1000000000 v) (hi : Bd 16000000000 i) :
    r116 cs xs k v.1 v.2 i.1 i.2 = some ((curV (cs.getD k default) v i).1, (curV (cs.getD k default) v i).2, (volV (xs.getD k default) v (curV (cs.getD k default) v i)).1, (volV (xs.getD k default) v (curV (cs.getD k default) v i)).2) := by
  obtain ⟨v1, v2, v3, v4⟩ := hv
  obtain ⟨i1, i2, i3, i4⟩ := hi
  have e1 := mulB (by omega) hc.2 v1 v2
  have e2 := mulB (by omega) hc.2 v3 v4
  obtain ⟨g1, g2, g3, g4⟩ := curV_bd (c := cs.getD k default) ⟨by omega, hc.2⟩ ⟨v1, v2, v3, v4⟩ ⟨i1, i2, i3, i4⟩
  have e3 := mulB (by omega) hxx.2 g1 g2
  have e4 := mulB (by omega) hxx.2 g3 g4
  unfold r116
  rw [if_pos (rgN hk)]
  simp only [Int.toNat_natCast, r86, r89, r90, Option.bind_some, if_pos (rgN hx)]
  generalize hcc : cs.getD k default = c at *
  generalize hxv : xs.getD k default = x at *
  simp only [curV, volV] at *
  rw [wI (a := c * v.1) (by omega) (by omega), wI (a := c * v.2) (by omega) (by omega), wI (a := i.1 + c * v.1) (by omega) (by omega), wI (a := i.2 + c * v.2) (by omega) (by omega), wI (a := 0 - x) (by omega) (by omega),
    wI (a := x * (i.1 + c * v.1)) (by omega) (by omega)]
  have e5 : (0 - x) * (i.2 + c * v.2) = -(x * (i.2 + c * v.2)) := by rw [Int.zero_sub, Int.neg_mul]
  rw [e5, wI (a := -(x * (i.2 + c * v.2))) (by omega) (by omega), wI (a := v.1 + -(x * (i.2 + c * v.2))) (by omega) (by omega), wI (a := v.2 + x * (i.1 + c * v.1)) (by omega) (by omega)]
  rfl
/-- currents and the first failing equation, from a node on -/
def cuS (cs : List Int) (l : List (Int × Int)) (k : Nat) : Int × Int := curL (cs.drop k) (l.drop (k + 1))
def wrS (cs xs : List Int) (l : List (Int × Int)) (k : Nat) : Int := wr k (cs.drop k) (xs.drop k) (l.drop k)
/-- voltages of the right form -/
structure VOk (cs : List Int) (l : List (Int × Int)) : Prop where
  len : l.length = cs.length + 1
  bd : ∀ v ∈ l, Bd 1000000000 v
  last : l.getD cs.length default = (1, 0)
variable {cs xs : List Int} {l : List (Int × Int)}
theorem cuS_succ (v : VOk cs l) {k : Nat} (hk : k < cs.length) : cuS cs l k = curV (cs.getD k default) (l.getD (k + 1) default) (cuS cs l (k + 1)) := by
  unfold cuS
  rw [dropC hk, dropC (l := l) (k := k + 1) (by have := v.len; omega)]; rfl
theorem cuS_end (v : VOk cs l) : cuS cs l cs.length = (0, 0) := by
  unfold cuS; rw [List.drop_length]; rfl
theorem wrS_succ (h : Lad cs xs) (v : VOk cs l) {k : Nat} (hk : k < cs.length) : wrS cs xs l k = if volV (xs.getD k default) (l.getD (k + 1) default) (cuS cs l k) = l.getD k default then wrS cs xs l (k + 1) else k := by
  have hl := v.len
  have e1 := dropC hk
  have e2 := dropC (show k < xs.length by rw [h.len]; exact hk)
  have e3 := dropC (l := l) (k := k) (by omega)
  have e4 := dropC (l := l) (k := k + 1) (by omega)
  unfold wrS cuS
  rw [e3]
  rw [e4, e1, e2]
  rfl
theorem wrS_end (h : Lad cs xs) (v : VOk cs l) : wrS cs xs l cs.length = -1 := by
  unfold wrS; rw [List.drop_length]; simp [wr]
theorem cuS_bd (h : Lad cs xs) (h4 : cs.length ≤ 4) (v : VOk cs l) (k : Nat) : Bd 16000000000 (cuS cs l k) := by
  have := curL_bd (cs := cs.drop k) (l := l.drop (k + 1)) (fun c hc => h.c c (List.mem_of_mem_drop hc)) (fun w hw => v.bd w (List.mem_of_mem_drop hw))
  have hl : (cs.drop k).length ≤ 4 := by simp; omega
  obtain ⟨a, b, c, d⟩ := this
  exact ⟨by unfold cuS; omega, by unfold cuS; omega, by unfold cuS; omega, by unfold cuS; omega⟩
def finS (w : Int) : Int × Int := if w ≥ 0 then (w, 19) else (0, 0)
def stV (cs xs : List Int) (l : List (Int × Int)) (k : Nat) : Int × Int × Int × Int := (wrS cs xs l k, (k : Int) - 1, (cuS cs l k).1, (cuS cs l k).2)
theorem step54 (h : Lad cs xs) (h4 : cs.length ≤ 4) (v : VOk cs l) (e : Int) {k : Nat} (hk : k < cs.length) : b54_2 l (cs, xs, e) (stV cs xs l (k + 1)) = .next (stV cs xs l k) ∧ b54_3 l (cs, xs, e) (stV cs xs l (k + 1)) = .next (stV cs xs l k) := by
  have hl := v.len
  have hx : k < xs.length := by rw [h.len]; exact hk
  have e0 : ((k + 1 : Nat) : Int) - 1 = (k : Int) := by omega
  have e1 : IntKind.i64.wrap ((k : Int) + 1) = ((k + 1 : Nat) : Int) := by rw [wI (by omega) (by omega)]; rfl
  have e2 : IntKind.i64.wrap ((k : Int) - 1) = (k : Int) - 1 := wI (by omega) (by omega)
  have hk1 : k + 1 < l.length := by omega
  have hk0 : k < l.length := by omega
  have hp := p116g hk hx (h.c _ (getD_mem hk)) (h.x _ (getD_mem hx)) (v.bd _ (getD_mem hk1)) (cuS_bd h h4 v (k + 1))
  rw [← cuS_succ v hk] at hp
  have hw := wrS_succ h v hk
  have hd : decide ((k : Int) ≥ 0) = true := by simp
  constructor
  · simp only [b54_2, stV, e0, e1, e2, hd, if_true, if_pos (rgN hk1), if_pos (rgN hk0), Int.toNat_natCast, hp, bindC, pairEq]
    by_cases hc : volV (xs.getD k default) (l.getD (k + 1) default) (cuS cs l k) = l.getD k default
    · rw [if_pos hc] at hw
      rw [if_neg (by simpa using hc), hw]
    · rw [if_neg hc] at hw
      rw [if_pos (by simpa using hc), hw]
  · simp only [b54_3, stV, e0, e1, e2, hd, if_true, if_pos (rgN hk1), if_pos (rgN hk0), Int.toNat_natCast, hp, bindC, pairEq]
    by_cases hc : volV (xs.getD k default) (l.getD (k + 1) default) (cuS cs l k) = l.getD k default
    · rw [if_pos hc] at hw
      rw [if_neg (by simpa using hc), hw]
    · rw [if_neg hc] at hw
      rw [if_pos (by simpa using hc), hw]
theorem loop54 (h : Lad cs xs) (h4 : cs.length ≤ 4) (v : VOk cs l) (e : Int) :
    iterC (b54_2 l (cs, xs, e)) 1000000000 (-1, (cs.length : Int) - 1, 0, 0) = some (finS (wrS cs xs l 0)) ∧ iterC (b54_3 l (cs, xs, e)) 1000000000 (-1, (cs.length : Int) - 1, 0, 0) = some (finS (wrS cs xs l 0)) := by
  have hs : stV cs xs l cs.length = (-1, (cs.length : Int) - 1, 0, 0) := by unfold stV; rw [wrS_end h v, cuS_end v]
  constructor
  · have key := iter_run cs.length (b54_2 l (cs, xs, e)) (fun j => stV cs xs l (cs.length - j)) (some (finS (wrS cs xs l 0))) (by omega) (fun j hj => by
      have := (step54 h h4 v e (show cs.length - (j + 1) < cs.length by omega)).1
      rwa [show cs.length - (j + 1) + 1 = cs.length - j by omega] at this) (by
      show b54_2 l (cs, xs, e) (stV cs xs l (cs.length - cs.length)) = _
      rw [Nat.sub_self]
      unfold b54_2
      rw [if_neg (by simp [stV])]
      unfold stV finS
      by_cases hq : wrS cs xs l 0 ≥ 0
      · rw [if_pos (by simpa using hq), if_pos hq]
      · rw [if_neg (by simpa using hq), if_neg hq])
    rw [Nat.sub_zero, hs] at key
    exact key
  · have key := iter_run cs.length (b54_3 l (cs, xs, e)) (fun j => stV cs xs l (cs.length - j)) (some (finS (wrS cs xs l 0))) (by omega) (fun j hj => by
      have := (step54 h h4 v e (show cs.length - (j + 1) < cs.length by omega)).2
      rwa [show cs.length - (j + 1) + 1 = cs.length - j by omega] at this) (by
      show b54_3 l (cs, xs, e) (stV cs xs l (cs.length - cs.length)) = _
      rw [Nat.sub_self]
      unfold b54_3
      rw [if_neg (by simp [stV])]
      unfold stV finS
      by_cases hq : wrS cs xs l 0 ≥ 0
      · rw [if_pos (by simpa using hq), if_pos hq]
      · rw [if_neg (by simpa using hq), if_neg hq])
    rw [Nat.sub_zero, hs] at key
    exact key
/-- the answer about voltages -/
def allP (l : List (Int × Int)) : Bool := l.all partB
def chkV (cs xs : List Int) (l : List (Int × Int)) : Int × Int :=
  if l.length = cs.length + 1 then (if allP l = true then (if l.getD cs.length default = (1, 0) then finS (wrS cs xs l 0) else (0, 3)) else (0, 2)) else (0, 10)
theorem allP_drop (l : List (Int × Int)) {i : Nat} (hi : i < l.length) : allP (l.drop i) = (partB (l.getD i default) && allP (l.drop (i + 1))) := by
  rw [dropC hi]; rfl
theorem allP_bd {l : List (Int × Int)} (h : allP l = true) : ∀ v ∈ l, Bd 1000000000 v := fun v hv => partB_bd (List.all_eq_true.1 h v hv)
theorem p54 (T : Int) (L : List (Int × Int × Int)) (f : Int) (H : List Bool) (l : List (Int × Int)) (hl : l.length ≤ 1000000) :
    r54 T L f H l = some (if bothE T L f H = 0 then chkV (condsV L) (reactV f L H) l else (0, bothE T L f H)) := by
  unfold r54
  rw [p83, Option.bind_some, p96, Option.bind_some, p87 _ (by simp), Option.bind_some]
  by_cases hb : bothE T L f H = 0
  · simp only [if_pos hb]
    have ok := ok_of hb
    have h := ok.ladr
    have h1 := ok.lad.pos
    have h4 := ok.lad.le
    have hcl := condsV_len L
    have e1 : IntKind.i64.wrap ((L.length : Int) + 1) = ((L.length + 1 : Nat) : Int) := by rw [wI (by omega) (by omega)]; rfl
    have e2 : IntKind.i64.wrap ((L.length : Int) - 1) = (L.length : Int) - 1 := wI (by omega) (by omega)
    rw [e1]
    unfold chkV
    by_cases hn : l.length = (condsV L).length + 1
    · have hn' : ((l.length : Int) == ((L.length + 1 : Nat) : Int)) = true := by simp; omega
      rw [hn', if_pos hn]
      simp only [codeIf, firstV, if_true, bne_self_eq_false, Bool.false_eq_true, if_false]
      have hL : (L.length : Int) < (l.length : Int) := by omega
      obtain ⟨E, hE⟩ : ∃ E, b54_1 L l (condsV L, reactV f L H, 0) (l.length : Int) = .out E := by
        unfold b54_1
        rw [if_neg (by simp)]
        exact ⟨_, rfl⟩
      have key := iter_suf l.length (b54_1 L l (condsV L, reactV f L H, 0)) (fun i => (i : Int)) (fun i => if allP (l.drop i) = true then E else some (0, 2)) (by omega) (fun i hi => by
        have e := allP_drop l hi
        simp only [b54_1, ltN hi, if_true, if_pos (rgN hi), Int.toNat_natCast, wS i (by omega), p113 (l.getD i default).1, bindC]
        rw [p113, gS]
        simp only [Option.getD_some]
        cases hx : partB (l.getD i default) with
        | true =>
          left
          rw [hx, Bool.true_and] at e
          rw [partB] at hx
          rw [if_neg (by rw [← Bool.not_and, hx]; simp), e]
          exact ⟨rfl, rfl⟩
        | false =>
          right
          rw [hx, Bool.false_and] at e
          rw [partB] at hx
          rw [if_pos (by rw [← Bool.not_and, hx]; rfl), e, if_neg (by simp), p96, Option.bind_some, if_pos ⟨by omega, hL⟩, p96, Option.bind_some, p87 _ (by simp), Option.bind_some]
          simp [codeIf, firstV]) (by rw [hE, List.drop_length]; rfl)
      have key : iterC (b54_1 L l (condsV L, reactV f L H, 0)) 1000000000 0 = _ := key
      rw [key, List.drop_zero]
      cases hall : allP l with
      | false => simp
      | true =>
        simp only [if_true]
        have hd : decide ((-1 : Int) ≥ 0) = false := by decide
        have hp := pairEq (l.getD L.length default) (1, 0)
        simp only [] at hp
        unfold b54_1 at hE
        rw [if_neg (by simp), p96, Option.bind_some, if_pos ⟨by omega, hL⟩, p96, Option.bind_some, p87 _ (by simp), Option.bind_some, hd, hp] at hE
        have hE := Ctl.out.inj hE
        rw [← hE, hcl]
        by_cases hla : l.getD L.length default = (1, 0)
        · rw [if_pos hla]
          have hv : VOk (condsV L) l := ⟨hn, allP_bd hall, by rw [hcl]; exact hla⟩
          have hk := (loop54 h (by omega) hv 0).2
          rw [hcl] at hk
          rw [hla, e2]
          rw [if_neg (by simp [codeIf, firstV])]
          exact hk
        · rw [if_neg hla, decide_eq_false hla, if_pos (by simp [codeIf, firstV])]
          simp [codeIf, firstV]
    · have hn' : ((l.length : Int) == ((L.length + 1 : Nat) : Int)) = false := by simp; omega
      rw [hn', if_neg hn]
      simp [codeIf, firstV]
  · simp only [if_neg hb, firstV]
    rw [if_pos (by simpa using hb)]
theorem subBd {a b : Int × Int} (ha : Bd 16000000000 a) (hb : Bd 16000000000 b) : Bd 32000000000 (a.1 - b.1, a.2 - b.2) := by
  obtain ⟨a1, a2, a3, a4⟩ := ha
  obtain ⟨b1, b2, b3, b4⟩ := hb
  exact ⟨by simp only []; omega, by simp only []; omega, by simp only []; omega, by simp only []; omega⟩
/-- the reference's sum of currents -/
theorem loop57 {L : List (Int × Int × Int)} (h : Lad (condsV L) xs) (h4 : L.length ≤ 4) (v : VOk (condsV L) l) {k : Nat} (hk : k < L.length) :
    iterC (b57_3 L l xs k) 1000000000 (k, 0, 0) = some (if volV (xs.getD k default) (l.getD (k + 1) default) (cuS (condsV L) l k) = l.getD k default then .next (((k + 1 : Nat) : Int)) else .out (some (k, 19))) := by
  have hcl := condsV_len L
  have hl := v.len
  have hx : k < xs.length := by rw [h.len, hcl]; exact hk
  have h4' : (condsV L).length ≤ 4 := by omega
  have e1 : IntKind.i64.wrap ((k : Int) + 1) = ((k + 1 : Nat) : Int) := by rw [wI (by omega) (by omega)]; rfl
  have key := iter_run (L.length - k) (b57_3 L l xs k) (fun j => (((k + j : Nat) : Int), (cuS (condsV L) l k).1 - (cuS (condsV L) l (k + j)).1, (cuS (condsV L) l k).2 - (cuS (condsV L) l (k + j)).2))
    (some (if volV (xs.getD k default) (l.getD (k + 1) default) (cuS (condsV L) l k) = l.getD k default then Ctl.next (((k + 1 : Nat) : Int)) else .out (some (k, 19)))) (by omega) (fun j hj => by
      have hm : k + j < L.length := by omega
      have hm1 : k + j + 1 < l.length := by omega
      have f1 : IntKind.i64.wrap (((k + j : Nat) : Int) + 1) = ((k + j + 1 : Nat) : Int) := by rw [wI (by omega) (by omega)]; rfl
      have hc := h.c _ (getD_mem (show k + j < (condsV L).length by omega))
      have hs := cuS_succ v (show k + j < (condsV L).length by omega)
      obtain ⟨v1, v2, v3, v4⟩ := v.bd _ (getD_mem hm1)
      have m1 := mulB (by omega) hc.2 v1 v2
      have m2 := mulB (by omega) hc.2 v3 v4
      obtain ⟨s1, s2, s3, s4⟩ := subBd (cuS_bd h h4' v k) (cuS_bd h h4' v (k + j))
      rw [condsV_get L (k + j) hm] at hs m1 m2
      simp only [b57_3, ltN hm, if_true, f1, if_pos (rgN hm1), if_pos (rgN hm), Int.toNat_natCast, r93, r34, bindC]
      simp only [] at s1 s2 s3 s4
      rw [hs] at s1 s2 s3 s4 ⊢
      simp only [curV] at s1 s2 s3 s4 ⊢
      rw [wI (a := (L.getD (k + j) default).1 * (l.getD (k + j + 1) default).1) (by omega) (by omega), wI (a := (L.getD (k + j) default).1 * (l.getD (k + j + 1) default).2) (by omega) (by omega), wI (by omega) (by omega), wI (by omega) (by omega)]
      congr 1
      refine Prod.ext (by simp only [Nat.add_assoc]) (Prod.ext ?_ ?_)
      · simp only [Nat.add_assoc]; omega
      · simp only [Nat.add_assoc]; omega) (by
      have hn : k + (L.length - k) = L.length := by omega
      have hend : cuS (condsV L) l L.length = (0, 0) := by rw [← hcl]; exact cuS_end v
      obtain ⟨c1, c2, c3, c4⟩ := cuS_bd h h4' v k
      have hxx := h.x _ (getD_mem hx)
      have m1 := mulB (by omega) hxx.2 c1 c2
      have m2 := mulB (by omega) hxx.2 c3 c4
      obtain ⟨v1, v2, v3, v4⟩ := v.bd _ (getD_mem (show k + 1 < l.length by omega))
      simp only [hn, hend]
      unfold b57_3
      rw [if_neg (by simp)]
      simp only [Int.sub_zero, e1, if_pos (rgN (show k < l.length by omega)), if_pos (rgN (show k + 1 < l.length by omega)), if_pos (rgN hx), Int.toNat_natCast, r117, r93, r34, bindC]
      have e5 : xs.getD k default * (0 - (cuS (condsV L) l k).2) = -(xs.getD k default * (cuS (condsV L) l k).2) := by rw [Int.zero_sub, Int.mul_neg]
      rw [wI (a := 0 - (cuS (condsV L) l k).2) (by omega) (by omega), e5, wI (a := -(xs.getD k default * (cuS (condsV L) l k).2)) (by omega) (by omega), wI (a := xs.getD k default * (cuS (condsV L) l k).1) (by omega) (by omega), wI (by omega) (by omega), wI (by omega) (by omega)]
      have hvv : volV (xs.getD k default) (l.getD (k + 1) default) (cuS (condsV L) l k) = ((l.getD (k + 1) default).1 + -(xs.getD k default * (cuS (condsV L) l k).2), (l.getD (k + 1) default).2 + xs.getD k default * (cuS (condsV L) l k).1) := by
        simp only [volV]; rw [Int.sub_eq_add_neg]
      have hp := pairEq (l.getD k default) ((l.getD (k + 1) default).1 + -(xs.getD k default * (cuS (condsV L) l k).2), (l.getD (k + 1) default).2 + xs.getD k default * (cuS (condsV L) l k).1)
      simp only [] at hp
      rw [hp]
      by_cases hq : l.getD k default = ((l.getD (k + 1) default).1 + -(xs.getD k default * (cuS (condsV L) l k).2), (l.getD (k + 1) default).2 + xs.getD k default * (cuS (condsV L) l k).1)
      · rw [decide_eq_true hq, if_neg (by simp), if_pos (by rw [hvv]; exact hq.symm)]
      · rw [decide_eq_false hq, if_pos (by simp), if_neg (by rw [hvv]; exact fun h => hq h.symm)])
  rw [← key]
  simp
theorem p57 (ok : Ok T L f H) (l : List (Int × Int)) (hl : l.length ≤ 1000000) : r57 T L f H l = some (chkV (condsV L) (reactV f L H) l) := by
  have h := ok.ladr
  have h1 := ok.lad.pos
  have h4 := ok.lad.le
  have hcl := condsV_len L
  have e1 : IntKind.i64.wrap ((L.length : Int) + 1) = ((L.length + 1 : Nat) : Int) := by rw [wI (by omega) (by omega)]; rfl
  unfold r57
  rw [e1]
  unfold chkV
  by_cases hn : l.length = (condsV L).length + 1
  · rw [if_neg (by simp; omega), if_pos hn]
    have hL : (L.length : Int) < (l.length : Int) := by omega
    obtain ⟨E, hE⟩ : ∃ E, b57_1 T L f H l (l.length : Int) = .out E := by
      unfold b57_1
      rw [if_neg (by simp)]
      exact ⟨_, rfl⟩
    have key := iter_suf l.length (b57_1 T L f H l) (fun i => (i : Int)) (fun i => if allP (l.drop i) = true then E else some (0, 2)) (by omega) (fun i hi => by
      have e := allP_drop l hi
      simp only [b57_1, ltN hi, if_true, if_pos (rgN hi), Int.toNat_natCast, wS i (by omega), p33 (l.getD i default).1, bindC]
      rw [if_pos (fun _ => rgN hi), p33, gS]
      simp only [Option.getD_some]
      cases hx : partB (l.getD i default) with
      | true =>
        left
        rw [hx, Bool.true_and] at e
        rw [partB] at hx
        rw [if_neg (by rw [← Bool.not_and, hx]; simp), e]
        exact ⟨rfl, rfl⟩
      | false =>
        right
        rw [hx, Bool.false_and] at e
        rw [partB] at hx
        rw [if_pos (by rw [← Bool.not_and, hx]; rfl), e, if_neg (by simp)]) (by rw [hE, List.drop_length]; rfl)
    have key : iterC (b57_1 T L f H l) 1000000000 0 = _ := key
    rw [key, List.drop_zero]
    cases hall : allP l with
    | false => simp
    | true =>
      simp only [if_true]
      have hp := pairEq (l.getD L.length default) (1, 0)
      simp only [] at hp
      unfold b57_1 at hE
      rw [if_neg (by simp), if_pos ⟨by omega, hL⟩, hp] at hE
      have hE := Ctl.out.inj hE
      rw [← hE, hcl]
      by_cases hla : l.getD L.length default = (1, 0)
      · rw [if_pos hla, decide_eq_true hla, if_neg (by simp), p31 ok, Option.bind_some]
        have hv : VOk (condsV L) l := ⟨hn, allP_bd hall, by rw [hcl]; exact hla⟩
        have k2 := iter_suf L.length (b57_2 L l (reactV f L H)) (fun k => (k : Int)) (fun k => some (finS (wrS (condsV L) (reactV f L H) l k))) (by omega) (fun k hk => by
          have hw := wrS_succ h hv (show k < (condsV L).length by omega)
          simp only [b57_2, ltN hk, if_true]
          rw [loop57 h h4 hv hk]
          simp only [Option.getD_some]
          by_cases hc : volV ((reactV f L H).getD k default) (l.getD (k + 1) default) (cuS (condsV L) l k) = l.getD k default
          · left
            rw [if_pos hc] at hw ⊢
            exact ⟨rfl, by rw [hw]⟩
          · right
            rw [if_neg hc] at hw ⊢
            rw [hw]
            unfold finS
            rw [if_pos (by omega)]) (by
          unfold b57_2
          rw [if_neg (by simp), ← hcl, wrS_end h hv]
          rfl)
        exact k2
      · rw [if_neg hla, decide_eq_false hla, if_pos (by simp)]
  · rw [if_pos (by simp; omega), if_neg hn]
end Go.Proofs.Ytagnplbfdaifkaa

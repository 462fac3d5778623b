/- FieldFrequencies as a plain law. -/
import Derived.Test.YtagnplbfdaifkaaFieldPw
import Derived.Test.YtagnplbfdaifkaaF23
set_option linter.unusedVariables false
set_option linter.unusedSimpArgs false
namespace Go.Proofs.Ytagnplbfdaifkaa
open Go.Abs

/-- the first of n numbers at which something holds -/
def fstN (P : Nat → Bool) (n : Nat) : Option Nat := scanN (fun i => if P i = true then some i else none) 0 n
theorem scan_map {ρ : Type} (P : Nat → Bool) (g : Nat → ρ) : ∀ (k i : Nat), scanN (fun i => if P i = true then some (g i) else none) i k = (scanN (fun i => if P i = true then some i else none) i k).map g
  | 0, _ => rfl
  | k + 1, i => by
    simp only [scanN]
    by_cases h : P i = true
    · rw [if_pos h, if_pos h]; rfl
    · rw [if_neg h, if_neg h]; exact scan_map P g k (i + 1)
theorem scan_congr {ρ : Type} {f g : Nat → Option ρ} : ∀ {k i : Nat}, (∀ j, i ≤ j → j < i + k → f j = g j) → scanN f i k = scanN g i k
  | 0, _, _ => rfl
  | k + 1, i, h => by
    simp only [scanN]
    rw [h i (by omega) (by omega), scan_congr (k := k) (i := i + 1) (fun j h1 h2 => h j (by omega) (by omega))]
theorem iter_scanS {σ ρ : Type} (n : Nat) (b : σ → Ctl σ ρ) (st : Nat → σ) (P : Nat → Bool) (g : Nat → ρ) (fin : ρ) (hn : n < 1000000000)
    (step : ∀ i : Nat, i < n → b (st i) = if P i = true then .out (some (g i)) else .next (st (i + 1))) (stop : b (st n) = .out (some fin)) :
    iterC b 1000000000 (st 0) = some (match fstN P n with | some i => g i | none => fin) := by
  have key := iter_suf n b st (fun i => some (((scanN (fun i => if P i = true then some i else none) i (n - i)).map g).getD fin)) hn (fun i hi => by
    obtain ⟨k, hk⟩ : ∃ k, n - i = k + 1 := ⟨n - i - 1, by omega⟩
    have hk2 : n - (i + 1) = k := by omega
    rw [step i hi, hk, hk2]
    simp only [scanN]
    by_cases h : P i = true
    · right; rw [if_pos h, if_pos h]; rfl
    · left; rw [if_neg h, if_neg h]; exact ⟨rfl, rfl⟩) (by rw [stop, Nat.sub_self]; rfl)
  rw [key, Nat.sub_zero]
  unfold fstN
  cases scanN (fun i => if P i = true then some i else none) 0 n <;> rfl

/-- the wish's error; the minimum frequency -/
def wishE (n : Nat) (H : List Bool) (pc dp : Int) : Int := if H.length = n then (if (inR pc 1 100 && inR dp 1 n) = true then 0 else 2) else 10
def depF (T : Int) (L : List (Int × Int × Int)) (H : List Bool) (pc : Int) (f : Int) : Nat := dep pc (powV (condsV L) (reactV f L H)).sum 0 (powV (condsV L) (reactV f L H))
def freP (T : Int) (L : List (Int × Int × Int)) (H : List Bool) (pc dp : Int) (i : Nat) : Bool := decide ((depF T L H pc ((i : Int) + 1) : Int) ≤ dp)
theorem p75 (T : Int) (L : List (Int × Int × Int)) (H : List Bool) (pc dp : Int) : r75 T L H pc dp = some (wishE L.length H pc dp) := by
  unfold r75 wishE
  by_cases h : H.length = L.length
  · rw [if_neg (by simp [h]), if_pos h, p33, Option.bind_some, p33, gS, Option.getD_some]
    cases inR pc 1 100 <;> cases inR dp 1 L.length <;> rfl
  · rw [if_pos (by simp; omega), if_neg h]
variable {T : Int} {L : List (Int × Int × Int)} {f : Int} {H : List Bool}
theorem okF (hl : LadOk T L) (hh : H.length = L.length) {i : Nat} (hi : i < 8) : Ok T L ((i : Int) + 1) H := ⟨hl, ⟨by omega, by omega⟩, hh⟩
theorem bothF (hl : ladE T L = 0) (hh : H.length = L.length) {f : Int} (h1 : 1 ≤ f) (h2 : f ≤ 8) : bothE T L f H = 0 := by
  unfold bothE driveE
  rw [if_pos hl, if_pos (inR_iff.2 ⟨h1, h2⟩), if_pos hh]
theorem wish_ok {n : Nat} {pc dp : Int} (h : wishE n H pc dp = 0) : H.length = n ∧ (1 ≤ pc ∧ pc ≤ 100) ∧ 1 ≤ dp ∧ dp ≤ n := by
  unfold wishE at h
  split at h
  · rename_i hh
    split at h
    · rename_i hc
      simp only [Bool.and_eq_true, inR_iff] at hc
      exact ⟨hh, hc.1, hc.2⟩
    · cases h
  · cases h
theorem p68 (pc dp : Int) : r68 T L H pc dp = some (if ladE T L ≠ 0 then (0, ladE T L) else if wishE L.length H pc dp ≠ 0 then (0, wishE L.length H pc dp) else match fstN (freP T L H pc dp) 8 with | some i => ((i : Int) + 1, 0) | none => (0, 12)) := by
  unfold r68
  rw [p99, Option.bind_some, p96, Option.bind_some, p104, Option.bind_some, p97, Option.bind_some, p96, Option.bind_some, p87 _ (by simp), Option.bind_some]
  by_cases hl : ladE T L = 0
  · have hl' : ¬ (ladE T L ≠ 0) := by simpa using hl
    have e : firstV [ladE T L, codeIf ((H.length : Int) == (L.length : Int)) 10, codeIf (inR pc 1 100) 2, codeIf (inR dp 1 L.length) 2] = wishE L.length H pc dp := by
      unfold wishE
      by_cases hh : H.length = L.length
      · have : ((H.length : Int) == (L.length : Int)) = true := by simp [hh]
        rw [this, if_pos hh, hl]
        cases inR pc 1 100 <;> cases inR dp 1 L.length <;> simp [codeIf, firstV]
      · have : ((H.length : Int) == (L.length : Int)) = false := by simp; omega
        rw [this, if_neg hh, hl]
        simp [codeIf, firstV]
    rw [e, if_neg hl']
    by_cases hw : wishE L.length H pc dp = 0
    · have hw' : ¬ (wishE L.length H pc dp ≠ 0) := by simpa using hw
      obtain ⟨hh, hp, hd⟩ := wish_ok hw
      have hlo := ladOk_of hl
      rw [if_neg (by simp [hw]), if_neg hw']
      exact iter_scanS 8 (b68_1 T L H pc dp) (fun i => (i : Int) + 1) (freP T L H pc dp) (fun i => ((i : Int) + 1, 0)) (0, 12) (by decide) (fun i hi => by
        have ok := okF hlo hh hi
        have e1 : IntKind.i64.wrap ((i : Int) + 1 + 1) = (((i + 1 : Nat) : Int)) + 1 := by rw [wI (by omega) (by omega)]; omega
        have hd2 : decide ((i : Int) + 1 ≤ 8) = true := by simp; omega
        simp only [b68_1, hd2, if_true, p119 ok, bindC]
        rw [p105 ok.ladr ok.lenc.1 ok.lenc.2 hp.1 hp.2]
        simp only [e1]
        rfl) (by
        unfold b68_1
        rw [if_neg (by decide)])
    · rw [if_pos (by simpa using hw), if_pos hw]
  · simp only [firstV, if_neg hl]
    rw [if_pos (by simpa using hl), if_pos hl]
theorem p76 (hl : ladE T L = 0) {pc dp : Int} (hw : wishE L.length H pc dp = 0) : r76 T L H pc dp = some (match fstN (freP T L H pc dp) 8 with | some i => ((i : Int) + 1, true) | none => (0, false)) := by
  obtain ⟨hh, hp, hd⟩ := wish_ok hw
  have hlo := ladOk_of hl
  exact iter_scanS 8 (b76_1 T L H pc dp) (fun i => (i : Int) + 1) (freP T L H pc dp) (fun i => ((i : Int) + 1, true)) (0, false) (by decide) (fun i hi => by
    have ok := okF hlo hh hi
    have e1 : IntKind.i64.wrap ((i : Int) + 1 + 1) = (((i + 1 : Nat) : Int)) + 1 := by rw [wI (by omega) (by omega)]; omega
    have hd2 : decide ((i : Int) + 1 ≤ 8) = true := by simp; omega
    simp only [b76_1, hd2, if_true, p52 ok hp.1 hp.2, bindC]
    simp only [e1]
    rfl) (by
    unfold b76_1
    rw [if_neg (by decide)])

/-- two lists of watts -/
def addL : List Int → List Int → List Int
  | a :: A, b :: B => (a + b) :: addL A B
  | _, _ => []
theorem addL_len : ∀ (A B : List Int), B.length = A.length → (addL A B).length = A.length
  | [], [], _ => rfl
  | a :: A, b :: B, h => by simp [addL, addL_len A B (by simpa using h)]
  | [], _ :: _, h => by simp at h
  | _ :: _, [], h => by simp at h
theorem addL_get : ∀ (A B : List Int), B.length = A.length → ∀ i, i < A.length → (addL A B).getD i default = A.getD i default + B.getD i default
  | [], _, _, i, hi => by simp at hi
  | a :: A, b :: B, h, 0, _ => rfl
  | a :: A, b :: B, h, i + 1, hi => by
    simp only [addL, List.getD_cons_succ]
    exact addL_get A B (by simpa using h) i (by simpa using hi)
  | a :: A, [], h, _, _ => by simp at h
/-- small watts -/
def Sm (A : List Int) : Prop := ∀ i, i < A.length → 0 ≤ A.getD i default ∧ A.getD i default ≤ 100000
theorem set_snoc (l : List Int) (a b : Int) : (l ++ [a]).set l.length b = l ++ [b] := by
  rw [List.set_append_right _ _ (Nat.le_refl _), Nat.sub_self]; rfl
theorem get_snoc (l : List Int) (a : Int) : (l ++ [a]).getD l.length default = a := by
  rw [List.getD_eq_getElem?_getD, List.getElem?_append_right (Nat.le_refl _), Nat.sub_self]; rfl
theorem p124 {ca xa cb xb : List Int} {t0 t1 : Int} {A B : List Int} (ha : r103 ca xa t0 = some A) (hb : r103 cb xb t1 = some B) (hA : Sm A) (hB : Sm B) (hl : B.length = A.length) (h4 : A.length ≤ 4) : r124 ca xa cb xb t0 t1 = some (addL A B) := by
  unfold r124
  rw [ha, Option.bind_some]
  have key := iter_run A.length (b124_1 cb xb t1 A) (fun i => (A.take i, (i : Int))) (some (addL A B)) (by omega) (fun i hi => by
    have hlen : (A.take i).length = i := by simp; omega
    have h1 := hA i hi
    have e1 : ((A.take i ++ [0]).length : Int) = (i : Int) + 1 := by simp; omega
    have e2 : (A.take i ++ [0]).getD i default = 0 := by
      have := get_snoc (A.take i) 0
      rwa [hlen] at this
    have e3 : ∀ b : Int, (A.take i ++ [0]).set i b = A.take i ++ [b] := by
      intro b
      have := set_snoc (A.take i) 0 b
      rwa [hlen] at this
    simp only [b124_1, ltN hi, if_true, if_pos (rgN hi), Int.toNat_natCast, wS i (by omega), hlen, e1, e2, e3]
    rw [if_pos ⟨by omega, by omega⟩, if_pos ⟨by omega, by omega⟩, if_pos ⟨by omega, by omega⟩, Int.zero_add, wI (by omega) (by omega), take_getD hi]
    rfl) (by
    unfold b124_1
    rw [if_neg (by simp)]
    simp only [List.take_length]
    rw [hb, Option.bind_some]
    congr 1
    have key := iter_run B.length (b124_2 B) (fun i => ((i : Int), (addL A B).take i ++ A.drop i)) (some (addL A B)) (by omega) (fun i hi => by
      have hiA : i < A.length := by omega
      have hal := addL_len A B hl
      have h1 := hA i hiA
      have h2 := hB i hi
      have hlen : ((addL A B).take i ++ A.drop i).length = A.length := by simp; omega
      have hg : ((addL A B).take i ++ A.drop i).getD i default = A.getD i default := by
        rw [List.getD_eq_getElem?_getD, List.getElem?_append_right (by simp; omega), List.getElem?_drop, List.getD_eq_getElem?_getD]
        congr 2
        simp; omega
      have hs : ∀ b : Int, ((addL A B).take i ++ A.drop i).set i b = (addL A B).take i ++ b :: A.drop (i + 1) := by
        intro b
        rw [List.set_append_right _ _ (by simp; omega), drop_getD hiA, List.length_take, Nat.min_eq_left (by omega), Nat.sub_self]; rfl
      simp only [b124_2, ltN hi, if_true, if_pos (rgN hi), Int.toNat_natCast, wS i (by omega), hlen, hg, hs]
      rw [if_pos (rgN hiA), if_pos (rgN hiA), wI (by omega) (by omega), ← addL_get A B hl i hiA, take_getD (show i < (addL A B).length by omega), List.append_assoc]
      rfl) (by
      have hal := addL_len A B hl
      unfold b124_2
      rw [if_neg (by simp)]
      simp only [hl, ← hal, List.take_length]
      rw [hal, List.drop_length, List.append_nil])
    simpa using key)
  simpa using key
theorem sm_wat (ok : Ok T L f H) {t : Int} (t0 : 0 ≤ t) (t1 : t ≤ 100000) : Sm (wat t (powV (condsV L) (reactV f L H)).sum 0 (powV (condsV L) (reactV f L H))) ∧ (wat t (powV (condsV L) (reactV f L H)).sum 0 (powV (condsV L) (reactV f L H))).length = L.length := by
  have h := ok.ladr
  have hcl := condsV_len L
  obtain ⟨p1, p2, p3⟩ := pow_ok h ok.lenc.2
  have ha := all_pos h ok.lenc.1
  have wl := wat_len t (powV (condsV L) (reactV f L H)).sum (powV (condsV L) (reactV f L H)) 0
  have wg := wat_get t0 (show 0 < (powV (condsV L) (reactV f L H)).sum by omega) (powV (condsV L) (reactV f L H)) 0 (by omega) p1 (by omega)
  refine ⟨fun i hi => ?_, by omega⟩
  have := (wg i (by omega)).1
  omega
variable {f2 : Int} {H2 : List Bool}
def watF (L : List (Int × Int × Int)) (f : Int) (H : List Bool) (t : Int) : List Int := wat t (powV (condsV L) (reactV f L H)).sum 0 (powV (condsV L) (reactV f L H))
/-- the watts of a pair -/
def twoV (L : List (Int × Int × Int)) (f : Int) (H : List Bool) (f2 : Int) (H2 : List Bool) (s t : Int) : List Int := addL (watF L f H s) (watF L f2 H2 t)
def pairE (T : Int) (L : List (Int × Int × Int)) (f : Int) (H : List Bool) (f2 : Int) (H2 : List Bool) : Int := if bothE T L f H = 0 then bothE T L f2 H2 else bothE T L f H
theorem p77 (T : Int) (L : List (Int × Int × Int)) (f : Int) (H : List Bool) (f2 : Int) (H2 : List Bool) : r77 T L f H f2 H2 = some (pairE T L f H f2 H2) := by
  unfold r77 pairE
  rw [p22, Option.bind_some]
  by_cases h : bothE T L f H = 0
  · have hl : ladE T L = 0 := by
      unfold bothE at h
      split at h
      · assumption
      · rename_i hn; exact absurd h hn
    rw [if_neg (by simp [h]), p63, Option.bind_some, if_pos h]
    unfold bothE
    rw [if_pos hl]
  · rw [if_pos (by simpa using h), if_neg h]
theorem p123 (T : Int) (L : List (Int × Int × Int)) (f : Int) (H : List Bool) (f2 : Int) (H2 : List Bool) :
    ∃ a b c d, r123 T L f H f2 H2 = some (a, b, c, d, pairE T L f H f2 H2) ∧ (pairE T L f H f2 H2 = 0 → a = condsV L ∧ b = reactV f L H ∧ c = condsV L ∧ d = reactV f2 L H2) := by
  unfold r123 pairE
  rw [p83, Option.bind_some, p83, Option.bind_some, p87 _ (by simp), Option.bind_some]
  refine ⟨(if bothE T L f H = 0 then (condsV L, reactV f L H, (0 : Int)) else ([], [], bothE T L f H)).1, (if bothE T L f H = 0 then (condsV L, reactV f L H, (0 : Int)) else ([], [], bothE T L f H)).2.1,
    (if bothE T L f2 H2 = 0 then (condsV L, reactV f2 L H2, (0 : Int)) else ([], [], bothE T L f2 H2)).1, (if bothE T L f2 H2 = 0 then (condsV L, reactV f2 L H2, (0 : Int)) else ([], [], bothE T L f2 H2)).2.1, ?_, fun hh => ?_⟩
  · by_cases h : bothE T L f H = 0 <;> by_cases h2 : bothE T L f2 H2 = 0 <;> simp [h, h2, firstV]
  · by_cases h : bothE T L f H = 0
    · rw [if_pos h] at hh
      simp [h, hh]
    · rw [if_neg h] at hh
      exact absurd hh h
theorem pair_ok (h : pairE T L f H f2 H2 = 0) : bothE T L f H = 0 ∧ bothE T L f2 H2 = 0 := by
  unfold pairE at h
  split at h
  · exact ⟨by assumption, h⟩
  · rename_i hn; exact absurd h hn
theorem p124' (h : pairE T L f H f2 H2 = 0) {s t : Int} (s0 : 0 ≤ s) (s1 : s ≤ 100000) (t0 : 0 ≤ t) (t1 : t ≤ 100000) : r124 (condsV L) (reactV f L H) (condsV L) (reactV f2 L H2) s t = some (twoV L f H f2 H2 s t) := by
  obtain ⟨h1, h2⟩ := pair_ok h
  have o1 := ok_of h1
  have o2 := ok_of h2
  obtain ⟨a1, a2⟩ := sm_wat o1 s0 s1
  obtain ⟨b1, b2⟩ := sm_wat o2 t0 t1
  have hle := o1.lad.le
  have a3 : (watF L f H s).length = L.length := a2
  have b3 : (watF L f2 H2 t).length = L.length := b2
  exact p124 (A := watF L f H s) (B := watF L f2 H2 t) (p103 o1.ladr o1.lenc.1 o1.lenc.2 s0 s1) (p103 o2.ladr o2.lenc.1 o2.lenc.2 t0 t1) a1 b1 (by omega) (by omega)
theorem two_len (h : pairE T L f H f2 H2 = 0) {s t : Int} (s0 : 0 ≤ s) (s1 : s ≤ 100000) (t0 : 0 ≤ t) (t1 : t ≤ 100000) : (twoV L f H f2 H2 s t).length = L.length := by
  obtain ⟨h1, h2⟩ := pair_ok h
  obtain ⟨a1, a2⟩ := sm_wat (ok_of h1) s0 s1
  obtain ⟨b1, b2⟩ := sm_wat (ok_of h2) t0 t1
  unfold twoV watF
  rw [addL_len _ _ (by omega), a2]
theorem p78 (h : pairE T L f H f2 H2 = 0) {s t : Int} (s0 : 0 ≤ s) (s1 : s ≤ 100000) (t0 : 0 ≤ t) (t1 : t ≤ 100000) : r78 T L f H f2 H2 s t = some (twoV L f H f2 H2 s t) := by
  obtain ⟨h1, h2⟩ := pair_ok h
  have o1 := ok_of h1
  have o2 := ok_of h2
  obtain ⟨a1, a2⟩ := sm_wat o1 s0 s1
  obtain ⟨b1, b2⟩ := sm_wat o2 t0 t1
  have hle := o1.lad.le
  unfold r78
  rw [p51 o1 s0 s1, Option.bind_some, p51 o2 t0 t1, Option.bind_some]
  change _ = some (addL (watF L f H s) (watF L f2 H2 t))
  change iterC (b78_1 (watF L f H s) (watF L f2 H2 t)) _ _ = _
  change Sm (watF L f H s) at a1
  change Sm (watF L f2 H2 t) at b1
  change (watF L f H s).length = _ at a2
  change (watF L f2 H2 t).length = _ at b2
  generalize watF L f H s = A at *
  generalize watF L f2 H2 t = B at *
  have hal := addL_len A B (by omega)
  refine iter_run A.length (b78_1 A B) (fun i => ((addL A B).take i, (i : Int))) _ (by omega) (fun i hi => ?_) ?_
  · have hiB : i < B.length := by omega
    have g1 := a1 i hi
    have g2 := b1 i hiB
    simp only [b78_1, ltN hi, if_true, if_pos (rgN hi), if_pos (rgN hiB), Int.toNat_natCast, wS i (by omega), List.length_take]
    rw [if_pos ⟨by omega, by omega⟩, wI (by omega) (by omega), ← addL_get A B (by omega) i hi, take_getD (show i < (addL A B).length by omega)]
    rfl
  · unfold b78_1
    rw [if_neg (by simp)]
    simp only [← hal, List.take_length]
theorem p70 (T : Int) (L : List (Int × Int × Int)) (f : Int) (H : List Bool) (f2 : Int) (H2 : List Bool) (s t : Int) :
    r70 T L f H f2 H2 s t = some (if pairE T L f H f2 H2 ≠ 0 then ([], pairE T L f H f2 H2) else if (inR s 0 100000 && inR t 0 100000) = true then (twoV L f H f2 H2 s t, 0) else ([], 2)) := by
  obtain ⟨a, b, c, d, e, hp⟩ := p123 T L f H f2 H2
  unfold r70
  rw [e, Option.bind_some, p102, Option.bind_some, p102, Option.bind_some, p87 _ (by simp), Option.bind_some]
  simp only []
  by_cases h : pairE T L f H f2 H2 = 0
  · obtain ⟨rfl, rfl, rfl, rfl⟩ := hp h
    rw [h]
    cases hs : inR s 0 100000 with
    | false => simp [codeIf, firstV]
    | true =>
      cases ht : inR t 0 100000 with
      | false => simp [codeIf, firstV]
      | true =>
        have is := inR_iff.1 hs
        have it := inR_iff.1 ht
        simp only [codeIf, if_true, firstV, bne_self_eq_false, Bool.false_eq_true, if_false, ne_eq, not_true, Bool.and_self]
        rw [p124' h is.1 is.2 it.1 it.2]; rfl
  · simp only [firstV, if_neg h]
    rw [if_pos (by simpa using h), if_pos h]
/-- errors of a shape -/
def shE (s : Int × Int) : Int := if (inR s.1 0 100000 && inR s.2 0 100000) = true then (if s.1 ≤ s.2 then 0 else 9) else 2
def shF (R : List (Int × Int)) (i : Nat) : Option Int := if shE (R.getD i default) = 0 then none else some (shE (R.getD i default))
def shapeE (n : Nat) (t : Int) (R : List (Int × Int)) : Int :=
  if inR t 0 100000 = true then (if R.length = n then (orE (scanN (shF R) 0 R.length) (some 0)).getD 0 else 10) else 2
theorem orE_some {ρ : Type} (s : Option ρ) (v d : ρ) : orE s (some v) = some ((orE s (some v)).getD d) := by cases s <;> rfl
theorem p125 (t : Int) (R : List (Int × Int)) (n : Nat) (hR : R.length ≤ 1000000) : r125 t R n = some (shapeE n t R) := by
  unfold r125 shapeE
  rw [p102, Option.bind_some, p96, Option.bind_some, p87 _ (by simp), Option.bind_some]
  cases ht : inR t 0 100000 with
  | false => simp [codeIf, firstV]
  | true =>
    by_cases hn : R.length = n
    · have hn' : ((R.length : Int) == (n : Int)) = true := by simp [hn]
      rw [hn', if_pos rfl, if_pos hn, if_neg (by simp [codeIf, firstV]), ← orE_some]
      refine iter_scan R.length (b125_1 R) (shF R) (some 0) (by omega) (fun i hi => ?_) (by simp [b125_1])
      simp only [b125_1, ltN hi, if_true, if_pos (rgN hi), Int.toNat_natCast, wS i (by omega), p102, p96, bindC]
      rw [p87 _ (by simp)]
      simp only [bindC, shF]
      have e : firstV [codeIf (inR (R.getD i default).1 0 100000) 2, codeIf (inR (R.getD i default).2 0 100000) 2, codeIf (decide ((R.getD i default).1 ≤ (R.getD i default).2)) 9] = shE (R.getD i default) := by
        unfold shE
        cases inR (R.getD i default).1 0 100000 <;> cases inR (R.getD i default).2 0 100000 <;> by_cases hc : (R.getD i default).1 ≤ (R.getD i default).2 <;> simp [codeIf, firstV, hc]
      rw [e]
      by_cases h5 : shE (R.getD i default) = 0
      · rw [if_pos h5, if_neg (by rw [h5]; simp)]
      · rw [if_neg h5, if_pos (by simpa using h5)]
    · have hn' : ((R.length : Int) == (n : Int)) = false := by simp; omega
      rw [hn', if_pos rfl, if_neg hn]
      simp [codeIf, firstV]
theorem sh_ref {σ : Type} (s : Int × Int) (nx : Ctl σ Int) :
    (if (codeIf (inR s.1 0 100000) 2 != 0 || codeIf (inR s.2 0 100000) 2 != 0) = true then .out (some 2) else if decide (s.1 > s.2) = true then .out (some 9) else nx) = if shE s = 0 then nx else .out (some (shE s)) := by
  unfold shE
  cases inR s.1 0 100000 <;> cases inR s.2 0 100000 <;> simp [codeIf]
  by_cases h6 : s.1 ≤ s.2
  · have h7 : ¬ s.2 < s.1 := by omega
    simp [h6, h7]
  · have h7 : s.2 < s.1 := by omega
    simp [h6, h7]
theorem p79 (T : Int) (L : List (Int × Int × Int)) (t : Int) (R : List (Int × Int)) (hR : R.length ≤ 1000000) : r79 T L t R = some (shapeE L.length t R) := by
  unfold r79 shapeE
  rw [p37, Option.bind_some]
  cases ht : inR t 0 100000 with
  | false => simp [codeIf]
  | true =>
    by_cases hn : R.length = L.length
    · rw [if_neg (by simp [codeIf]), if_neg (by simp [hn]), if_pos rfl, if_pos hn, ← orE_some]
      refine iter_scan R.length (b79_1 R) (shF R) (some 0) (by omega) (fun i hi => ?_) (by simp [b79_1])
      simp only [b79_1, ltN hi, if_true, if_pos (rgN hi), Int.toNat_natCast, wS i (by omega), p37, bindC, Option.isSome_some, Option.getD_some, implies_true, shF]
      rw [if_pos (fun _ => rgN hi), sh_ref]
      by_cases h5 : shE (R.getD i default) = 0
      · rw [if_pos h5, if_pos h5]
      · rw [if_neg h5, if_neg h5]
    · rw [if_neg (by simp [codeIf]), if_pos (by simp; omega), if_pos rfl, if_neg hn]
/-- watts that lie in ranges -/
def wi (W : List Int) (R : List (Int × Int)) (i : Nat) : Bool := inR (W.getD i default) (R.getD i default).1 (R.getD i default).2
def fitN (W : List Int) (R : List (Int × Int)) : Nat → Bool
  | 0 => true
  | k + 1 => fitN W R k && wi W R k
theorem fitN_false {W : List Int} {R : List (Int × Int)} : ∀ {n k : Nat}, k < n → wi W R k = false → fitN W R n = false
  | 0, k, h, _ => by omega
  | n + 1, k, h, e => by
    unfold fitN
    by_cases hk : k = n
    · subst hk; rw [e, Bool.and_false]
    · rw [fitN_false (by omega) e, Bool.false_and]
theorem fitN_true {W : List Int} {R : List (Int × Int)} : ∀ {n : Nat}, (∀ k, k < n → wi W R k = true) → fitN W R n = true
  | 0, _ => rfl
  | n + 1, h => by unfold fitN; rw [fitN_true (fun k hk => h k (by omega)), h n (by omega)]; rfl
theorem p126 (W : List Int) (R : List (Int × Int)) (hW : W.length ≤ 1000000) (hl : R.length = W.length) : r126 W R = some (fitN W R W.length) := by
  have key := iter_scanS W.length (b126_1 W R) (fun i => (i : Int)) (fun i => !wi W R i) (fun _ => false) true (by omega) (fun i hi => by
    have hiR : i < R.length := by omega
    simp only [b126_1, ltN hi, if_true, if_pos (rgN hi), if_pos (rgN hiR), Int.toNat_natCast, wS i (by omega), p33, bindC, wi]
    rfl) (by
    unfold b126_1
    rw [if_neg (by simp)])
  unfold r126
  have key : iterC (b126_1 W R) 1000000000 0 = _ := key
  rw [key]
  unfold fstN
  cases h : scanN (fun i => if (!wi W R i) = true then some i else none) 0 W.length with
  | none =>
    have := fun (j : Nat) (hj : j < W.length) => scan_none h j (Nat.zero_le j) (by omega)
    rw [fitN_true (fun k hk => by
      have hq := this k hk
      cases hw : wi W R k with
      | true => rfl
      | false => simp [hw] at hq)]
  | some v =>
    obtain ⟨j, _, h2, h3⟩ := scan_some h
    have hw : wi W R j = false := by
      cases hw : wi W R j with
      | false => rfl
      | true => simp [hw] at h3
    rw [fitN_false (show j < W.length by omega) hw]
/-- the splits that meet a shape -/
def spP (L : List (Int × Int × Int)) (f : Int) (H : List Bool) (f2 : Int) (H2 : List Bool) (t : Int) (R : List (Int × Int)) (i : Nat) : Bool := fitN (twoV L f H f2 H2 i (t - i)) R L.length
theorem loop72 (W : List Int) (R : List (Int × Int)) (hW : W.length ≤ 1000000) (hl : R.length = W.length) (s : Int) : iterC (b72_2 R s W) 1000000000 (true, 0) = some (if fitN W R W.length = true then .out (some (s, 0)) else .next (IntKind.i64.wrap (s + 1))) := by
  have key := iter_run W.length (b72_2 R s W) (fun i => (fitN W R i, (i : Int))) (some (if fitN W R W.length = true then Ctl.out (some (s, 0)) else .next (IntKind.i64.wrap (s + 1)))) (by omega) (fun i hi => by
    have hiR : i < R.length := by omega
    simp only [b72_2, ltN hi, if_true, if_pos (rgN hi), Int.toNat_natCast, wS i (by omega), p97]
    rw [if_pos (fun _ => rgN hiR), if_pos (fun _ => rgN hiR), gS]
    rfl) (by
    unfold b72_2
    rw [if_neg (by simp)])
  simpa [fitN] using key
theorem shape_ok {n : Nat} {t : Int} {R : List (Int × Int)} (h : shapeE n t R = 0) : (0 ≤ t ∧ t ≤ 100000) ∧ R.length = n := by
  unfold shapeE at h
  split at h
  · rename_i ht
    split at h
    · exact ⟨inR_iff.1 ht, by assumption⟩
    · cases h
  · cases h
theorem p72 (T : Int) (L : List (Int × Int × Int)) (f : Int) (H : List Bool) (f2 : Int) (H2 : List Bool) (t : Int) (R : List (Int × Int)) (hR : R.length ≤ 1000000) :
    r72 T L f H f2 H2 t R = some (if pairE T L f H f2 H2 ≠ 0 then (0, pairE T L f H f2 H2) else if shapeE L.length t R ≠ 0 then (0, shapeE L.length t R) else match fstN (spP L f H f2 H2 t R) (t + 1).toNat with | some i => ((i : Int), 0) | none => (0, 12)) := by
  obtain ⟨a, b, c, d, e, hp⟩ := p123 T L f H f2 H2
  unfold r72
  rw [e, Option.bind_some, p125 t R L.length hR, Option.bind_some, p87 _ (by simp), Option.bind_some]
  simp only []
  by_cases h : pairE T L f H f2 H2 = 0
  · have h' : ¬ (pairE T L f H f2 H2 ≠ 0) := by simpa using h
    obtain ⟨rfl, rfl, rfl, rfl⟩ := hp h
    rw [if_neg h']
    by_cases hs : shapeE L.length t R = 0
    · have hs' : ¬ (shapeE L.length t R ≠ 0) := by simpa using hs
      obtain ⟨ht, hl⟩ := shape_ok hs
      have hle := (ok_of (pair_ok h).1).lad.le
      rw [if_neg (by simp [h, hs, firstV]), if_neg hs']
      have e0 : IntKind.i64.wrap (t + 1) = (((t + 1).toNat : Nat) : Int) := by rw [wI (by omega) (by omega)]; omega
      exact iter_scanS (t + 1).toNat (b72_1 t R (condsV L, reactV f L H, condsV L, reactV f2 L H2, pairE T L f H f2 H2)) (fun i => (i : Int)) (spP L f H f2 H2 t R) (fun i => ((i : Int), 0)) (0, 12) (by omega) (fun i hi => by
        have e1 : IntKind.i64.wrap (t - (i : Int)) = t - (i : Int) := wI (by omega) (by omega)
        have hlen := two_len h (s := i) (t := t - i) (by omega) (by omega) (by omega) (by omega)
        simp only [b72_1, e0, ltN hi, if_true, e1]
        rw [p124' h (by omega) (by omega) (by omega) (by omega)]
        simp only [bindC]
        rw [loop72 _ _ (by omega) (by omega), hlen, wS i (by omega)]
        rfl) (by
        unfold b72_1
        rw [e0, if_neg (by simp)])
    · rw [if_pos (by simpa [h, firstV] using hs), if_pos hs]
      simp [h, firstV, hs]
  · simp only [firstV, if_neg h]
    rw [if_pos (by simpa using h), if_pos h]
theorem p80 (h : pairE T L f H f2 H2 = 0) {t : Int} {R : List (Int × Int)} (hs : shapeE L.length t R = 0) :
    r80 T L f H f2 H2 t R = some (match fstN (spP L f H f2 H2 t R) (t + 1).toNat with | some i => ((i : Int), true) | none => (0, false)) := by
  obtain ⟨ht, hl⟩ := shape_ok hs
  have hle := (ok_of (pair_ok h).1).lad.le
  exact iter_scanS (t + 1).toNat (b80_1 T L f H f2 H2 t R) (fun i => (i : Int)) (spP L f H f2 H2 t R) (fun i => ((i : Int), true)) (0, false) (by omega) (fun i hi => by
    have e1 : IntKind.i64.wrap (t - (i : Int)) = t - (i : Int) := wI (by omega) (by omega)
    have hd : decide ((i : Int) ≤ t) = true := by simp; omega
    have hlen := two_len h (s := i) (t := t - i) (by omega) (by omega) (by omega) (by omega)
    simp only [b80_1, hd, if_true, e1]
    rw [p78 h (by omega) (by omega) (by omega) (by omega)]
    simp only [bindC]
    rw [p126 _ _ (by omega) (by omega), hlen, wS i (by omega)]
    rfl) (by
    unfold b80_1
    rw [if_neg (by simp; omega)])
/-- the tail: a pair's watts, and the split -/
theorem tailF (s t u : Int) (R : List (Int × Int)) (hR : R.length ≤ 1000000) {v7 : List Int × Int} {v9 : Int × Int}
    (h7 : v7 = if pairE T L f H f2 H2 ≠ 0 then ([], pairE T L f H f2 H2) else if (inR s 0 100000 && inR t 0 100000) = true then (twoV L f H f2 H2 s t, 0) else ([], 2))
    (h9 : v9 = if pairE T L f H f2 H2 ≠ 0 then (0, pairE T L f H f2 H2) else if shapeE L.length u R ≠ 0 then (0, shapeE L.length u R) else match fstN (spP L f H f2 H2 u R) (u + 1).toNat with | some i => ((i : Int), 0) | none => (0, 12)) :
    ((r77 T L f H f2 H2).bind fun v22 =>
                      if (v22 != 0) = true then
                       some ((((v7.2 == v22) && (v9.2 == v22)) && ((v7.1.length : Int) == 0)) && (v9.1 == 0))
                       else (r37 s).bind fun v23 =>
                        if (!(v23 != 0)) = true → (r37 t).isSome = true then
                         if ((v23 != 0) || (((r37 t).getD default) != 0)) = true then
                          if ((v7.2 != 2) || ((v7.1.length : Int) != 0)) = true then
                           some false
                           else (r79 T L u R).bind fun v24 =>
                            if (v24 != 0) = true then
                             some ((v9.2 == v24) && (v9.1 == 0))
                             else (r80 T L f H f2 H2 u R).bind fun v25 =>
                              some (((v25.2 && (v9.2 == 0)) && (v9.1 == v25.1)) || (((!v25.2) && (v9.2 == 12)) && (v9.1 == 0)))
                          else if (!(v7.2 != 0)) = true → (r78 T L f H f2 H2 s t).isSome = true then
                           if (!(v7.2 != 0)) = true → (r30 v7.1 ((r78 T L f H f2 H2 s t).getD default)).isSome = true then
                            if ((v7.2 != 0) || (!((r30 v7.1 ((r78 T L f H f2 H2 s t).getD default)).getD default))) = true then
                             some false
                             else (r79 T L u R).bind fun v26 =>
                              if (v26 != 0) = true then
                               some ((v9.2 == v26) && (v9.1 == 0))
                               else (r80 T L f H f2 H2 u R).bind fun v27 =>
                                some (((v27.2 && (v9.2 == 0)) && (v9.1 == v27.1)) || (((!v27.2) && (v9.2 == 12)) && (v9.1 == 0)))
                            else none
                           else none
                         else none) = some true := by
  rw [p77, Option.bind_some]
  by_cases h : pairE T L f H f2 H2 = 0
  · have h' : ¬ (pairE T L f H f2 H2 ≠ 0) := by simpa using h
    rw [if_neg h'] at h7 h9
    rw [if_neg (by simp [h]), p37, Option.bind_some, p37, gS, Option.getD_some]
    -- the shape
    have fin : ((r79 T L u R).bind fun v24 =>
                            if (v24 != 0) = true then
                             some ((v9.2 == v24) && (v9.1 == 0))
                             else (r80 T L f H f2 H2 u R).bind fun v25 =>
                              some (((v25.2 && (v9.2 == 0)) && (v9.1 == v25.1)) || (((!v25.2) && (v9.2 == 12)) && (v9.1 == 0)))) = some true := by
      rw [p79 T L u R hR, Option.bind_some]
      by_cases hs : shapeE L.length u R = 0
      · have hs' : ¬ (shapeE L.length u R ≠ 0) := by simpa using hs
        rw [if_neg hs'] at h9
        rw [if_neg (by simp [hs]), p80 h hs, Option.bind_some]
        cases hf : fstN (spP L f H f2 H2 u R) (u + 1).toNat with
        | none => rw [hf] at h9; subst h9; simp
        | some i => rw [hf] at h9; subst h9; simp
      · rw [if_pos hs] at h9
        subst h9
        rw [if_pos (by simpa using hs)]
        simp
    by_cases hst : (inR s 0 100000 && inR t 0 100000) = true
    · rw [if_pos hst] at h7
      have h71 : v7.1 = twoV L f H f2 H2 s t := by rw [h7]
      have h72 : v7.2 = 0 := by rw [h7]
      simp only [Bool.and_eq_true] at hst
      obtain ⟨hs, ht⟩ := hst
      have is := inR_iff.1 hs
      have it := inR_iff.1 ht
      have hle := (ok_of (pair_ok h).1).lad.le
      have p := p78 h is.1 is.2 it.1 it.2
      have hr : r30 v7.1 ((r78 T L f H f2 H2 s t).getD default) = some true := by
        rw [h71, p, Option.getD_some]
        exact p30 _ _ (by rw [two_len h is.1 is.2 it.1 it.2]; omega) rfl
      rw [hs, ht, if_neg (by simp [codeIf]), if_pos (fun _ => by rw [p]; rfl), if_pos (fun _ => by rw [hr]; rfl), if_neg (by rw [hr, h72]; simp)]
      exact fin
    · rw [if_neg hst] at h7
      have h72 : v7.2 = 2 := by rw [h7]
      have h71 : v7.1 = [] := by rw [h7]
      rw [if_pos (by
        revert hst
        cases inR s 0 100000 <;> cases inR t 0 100000 <;> simp [codeIf]), if_neg (by rw [h72, h71]; simp)]
      exact fin
  · rw [if_pos h] at h7 h9
    subst h7 h9
    rw [if_pos (by simpa using h)]
    simp
theorem frequencies (T : Int) (L : List (Int × Int × Int)) (f : Int) (H : List Bool) (f2 : Int) (H2 : List Bool) (pc dp s t u : Int) (R : List (Int × Int)) : r14 T L f H f2 H2 pc dp s t u R = some true := by
  unfold r14
  rw [awake, Option.bind_some, if_neg (by simp), p16, Option.bind_some, p17, gS, Option.getD_some, p17, gS, Option.getD_some]
  by_cases hf : ((!decide ((L.length : Int) ≤ 6)) || (!decide ((H.length : Int) ≤ 6)) || (!decide ((H2.length : Int) ≤ 6)) || decide ((R.length : Int) > 6) || (decide (u > 150) && decide (u ≤ 100000))) = true
  · rw [if_pos hf]
  · rw [if_neg hf]
    simp only [Bool.or_eq_true, Bool.not_eq_true', decide_eq_false_iff_not, decide_eq_true_eq, not_or, Decidable.not_not] at hf
    have e69 : r69 H = some H := by unfold r69; rw [if_pos ⟨by omega, by omega⟩]
    have e71 : r71 f H f2 H2 = some (f, H, f2, H2) := by unfold r71; rw [p20 f H (by omega), Option.bind_some, p20 f2 H2 (by omega), Option.bind_some]
    have e73 : r73 u R = some (u, R) := by unfold r73; rw [if_pos ⟨by omega, by omega⟩]
    rw [p19 T L (by omega), Option.bind_some, e69, Option.bind_some, p68, Option.bind_some, e71, Option.bind_some, p70, Option.bind_some, e73, Option.bind_some, p72 T L f H f2 H2 u R (by omega), Option.bind_some, p74, Option.bind_some]
    by_cases hl : ladE T L = 0
    · have hl' : ¬ (ladE T L ≠ 0) := by simpa using hl
      rw [if_pos (by simp [hl]), p75, Option.bind_some]
      simp only [if_neg hl']
      by_cases hw : wishE L.length H pc dp = 0
      · have hw' : ¬ (wishE L.length H pc dp ≠ 0) := by simpa using hw
        rw [if_neg (by simp [hw]), p76 hl hw, Option.bind_some]
        simp only [if_neg hw']
        rw [if_neg (by cases fstN (freP T L H pc dp) 8 <;> simp)]
        exact tailF s t u R (by omega) rfl rfl
      · rw [if_pos (by simpa using hw)]
        simp only [if_pos hw]
        rw [if_neg (by simp)]
        exact tailF s t u R (by omega) rfl rfl
    · rw [if_neg (by simp [hl]), if_pos (by simpa using hl)]
      simp only [if_pos hl]
      rw [if_neg (by simp)]
      exact tailF s t u R (by omega) rfl rfl
end Go.Proofs.Ytagnplbfdaifkaa

/- HeatDepths as a plain law. -/
import Derived.Test.YtcbiiijnaeibhaaGreatHeatQ
import Derived.Test.YtcbiiijnaeibhaaGreatF10
set_option linter.unusedVariables false
set_option linter.unusedSimpArgs false
namespace Go.Proofs.YtcbiiijnaeibhaaGreat
open Go.Abs

/-- hotter -/
def hotter (T : List (Int × Int)) (k x : Int) : Bool := decide ((k : Rat) < pl T x)
theorem hotter_iff {T : List (Int × Int)} {k x N D : Int} (P : At (pl T x) N D 1000000 3000) : hotter T k x = decide (k * D < N) := by
  have h0 : (0 : Rat) < D := Rat.intCast_pos.2 P.pos
  unfold hotter
  rw [decide_eq_decide, ← Rat.intCast_lt_intCast, Rat.intCast_mul, P.eq]
  constructor
  · intro h; exact Rat.mul_lt_mul_of_pos_right h h0
  · intro h; exact Rat.lt_of_mul_lt_mul_right h (Rat.le_of_lt h0)
theorem q39 {a b : Int} {T : List (Int × Int)} {L : List (List (Int × Int))} (ok : SetOk a b T L) (sp : List ((List (Int × Int)) × Int × Int)) (x : Int) {k : Int} (hk : 200 ≤ k ∧ k ≤ 3000) : r39 x a b T L T L sp k = some (hotter T k x) := by
  obtain ⟨N, D, h1, P⟩ := p121 ok a b T L L x
  have p1 := P.pos; have p2 := P.le; have p3 := P.num
  have m := mulB (x := k) (y := D) (X := 3000) (Y := 1000000) (by omega) hk.2 (by omega) p2
  unfold r39 r40
  rw [h1, Option.bind_some, Option.bind_some, hotter_iff P, IntWalk.i64_in (k * D) ⟨by omega, by omega⟩, IntWalk.i64_in (N - k * D) ⟨by omega, by omega⟩]
  congr 1
  rw [decide_eq_decide]; omega
theorem q51 {a b : Int} {T : List (Int × Int)} {L : List (List (Int × Int))} (ok : SetOk a b T L) {x k : Int} (hk : 200 ≤ k ∧ k ≤ 3000) (hx : inT T x = true) : r51 a b T L x k = some (hotter T k x) := by
  obtain ⟨N, D, h1, P⟩ := p57 ok a b L x hx
  have p1 := P.pos; have p2 := P.le; have p3 := P.num
  have m := mulB (x := k) (y := D) (X := 3000) (Y := 1000000) (by omega) hk.2 (by omega) p2
  unfold r51
  rw [h1, Option.bind_some, hotter_iff P, IntWalk.i64_in (k * D) ⟨by omega, by omega⟩]
theorem q41b {a b : Int} {T : List (Int × Int)} {L : List (List (Int × Int))} (ok : SetOk a b T L) (sp : List ((List (Int × Int)) × Int × Int)) (l : List Int) {k : Int} (hk : 200 ≤ k ∧ k ≤ 3000) (hl : l.length < 1000000) : r41b l a b T L T L sp k = some (l.any (hotter T k)) := by
  have h : r65e l a b T L T L sp k = some (idxV (hotter T k) 0 l) := by
    unfold r65e
    refine idx_loop _ l _ (by omega) (fun i hi => ?_) (by simp [b65e_1])
    simp only [b65e_1, ltN hi, if_true, if_pos (rgN hi), Int.toNat_natCast, wS i (by omega), q39 ok sp _ hk, bindC]
  unfold r41b
  rw [h, Option.bind_some, idx_ge _ l 0 (by omega)]
/-- the first tick at which a cell may be hotter than a limit -/
def beyS (b : Int) (T : List (Int × Int)) (L : List (List (Int × Int))) (k : Int) : List Int → List Int → List ((List (Int × Int)) × Int × Int) → Int → Int × Int
  | _, hi, [], t => if hi.any (hotter T k) = true then (t, 0) else (0, 12)
  | lo, hi, d :: r, t => if hi.any (hotter T k) = true then (t, 0) else ((boxS b T L lo hi d).map fun y => beyS b T L k y.1 y.2 r (t + 1)).getD (0, 22)
theorem bey_hot {b : Int} {T : List (Int × Int)} {L : List (List (Int × Int))} {k : Int} {lo hi : List Int} {sp : List ((List (Int × Int)) × Int × Int)} {t : Int} (h : hi.any (hotter T k) = true) : beyS b T L k lo hi sp t = (t, 0) := by
  cases sp with
  | nil => unfold beyS; rw [if_pos h]
  | cons d r => unfold beyS; rw [if_pos h]
theorem bey_nil {b : Int} {T : List (Int × Int)} {L : List (List (Int × Int))} {k : Int} {lo hi : List Int} {t : Int} (h : ¬ hi.any (hotter T k) = true) : beyS b T L k lo hi [] t = (0, 12) := by
  unfold beyS; rw [if_neg h]
theorem bey_cons {b : Int} {T : List (Int × Int)} {L : List (List (Int × Int))} {k : Int} {lo hi : List Int} {d : (List (Int × Int)) × Int × Int} {r : List ((List (Int × Int)) × Int × Int)} {t : Int} (h : ¬ hi.any (hotter T k) = true) : beyS b T L k lo hi (d :: r) t = ((boxS b T L lo hi d).map fun y => beyS b T L k y.1 y.2 r (t + 1)).getD (0, 22) := by
  conv => lhs; unfold beyS
  rw [if_neg h]
structure BeyI (a b : Int) (T : List (Int × Int)) (L : List (List (Int × Int))) (k : Int) (sp : List ((List (Int × Int)) × Int × Int)) (v : Int × Int) (t : Nat) (st : Int × List Int × List Int) : Prop where
  tick : st.1 = (t : Int)
  le : t ≤ sp.length
  box : BoxOk a b T L st.2.1 st.2.2
  val : beyS b T L k st.2.1 st.2.2 (sp.drop t) (t : Int) = v
theorem bey_round {a b : Int} {T : List (Int × Int)} {L : List (List (Int × Int))} {sp : List ((List (Int × Int)) × Int × Int)} {k : Int} {v : Int × Int} (hok : ∀ d ∈ sp, spanErrV a L d.1 d.2.1 d.2.2 = 0) {t : Nat} {st : Int × List Int × List Int} (E : BeyI a b T L k sp v t st) (hh : ¬ st.2.2.any (hotter T k) = true) (ht : t < sp.length) :
    (boxS b T L st.2.1 st.2.2 (sp.getD t default) = none → v = (0, 22)) ∧ ∀ y, boxS b T L st.2.1 st.2.2 (sp.getD t default) = some y → BeyI a b T L k sp v (t + 1) ((t : Int) + 1, y.1, y.2) := by
  have hdrop : sp.drop t = sp.getD t default :: sp.drop (t + 1) := by
    rw [List.drop_eq_getElem_cons ht]; simp [List.getD_eq_getElem?_getD, ht]
  have hv := E.val
  rw [hdrop, bey_cons hh] at hv
  refine ⟨fun h => by rw [h] at hv; exact hv.symm, fun y h => ?_⟩
  rw [h] at hv
  exact ⟨by simp, by omega, E.box.next (hok _ (getD_mem ht)) h, by simpa using hv⟩
theorem q14_loop {a b : Int} {T : List (Int × Int)} {L : List (List (Int × Int))} {sp : List ((List (Int × Int)) × Int × Int)} {k : Int} {v : Int × Int} (hk : 200 ≤ k ∧ k ≤ 3000) (h200 : sp.length ≤ 200) (hok : ∀ d ∈ sp, spanErrV a L d.1 d.2.1 d.2.2 = 0) (n : Int) {st : Int × List Int × List Int} (E : BeyI a b T L k sp v 0 st) : iterC (b14_1 sp k (a, b, T, L, T, L, n)) 1000000000 st = some v := by
  refine iter_inv (b14_1 sp k (a, b, T, L, T, L, n)) (fun t st => BeyI a b T L k sp v t st) (fun r => r = some v) 300 ?_ ?_ st E 1000000000 (by omega)
  · rintro t ⟨t', lo, hi⟩ ht E
    have e1 := E.tick
    simp only at e1
    subst e1
    have hb := E.box
    simp only at hb
    have hl := hb.hi.len
    have hcl := hb.hi.ok.cells
    unfold b14_1
    simp only
    rw [q41b hb.hi.ok sp hi hk (by omega)]
    simp only [bindC]
    by_cases hh : hi.any (hotter T k) = true
    · right
      rw [if_pos hh]
      have := E.val
      simp only at this
      rw [bey_hot hh] at this
      exact ⟨_, rfl, by rw [this]⟩
    · rw [if_neg hh]
      by_cases htl : t = sp.length
      · right
        rw [if_pos (by rw [beq_iff_eq]; omega)]
        have := E.val
        simp only at this
        rw [htl, List.drop_length, bey_nil hh] at this
        exact ⟨_, rfl, by rw [this]⟩
      · have hlt : t < sp.length := by have := E.le; omega
        obtain ⟨g1, g2⟩ := bey_round hok E hh hlt
        simp only at g1 g2
        rw [if_neg (by rw [beq_iff_eq]; omega), if_pos (rgN hlt), Int.toNat_natCast, p117 hb (hok _ (getD_mem hlt))]
        simp only
        cases hx : boxS b T L lo hi (sp.getD t default) with
        | none =>
          right
          rw [g1 hx]
          exact ⟨_, rfl, rfl⟩
        | some y =>
          left
          rw [show bxR (some y) = (y.1, y.2, 0) from rfl, if_neg (show ¬ (((y.1, y.2, (0 : Int)).2.2 != 0) = true) by simp), wS t (by omega)]
          exact ⟨_, rfl, g2 y hx⟩
  · rintro ⟨t', lo, hi⟩ E
    have := E.le
    omega
theorem q21_loop {a b : Int} {T : List (Int × Int)} {L : List (List (Int × Int))} {sp : List ((List (Int × Int)) × Int × Int)} {k : Int} {v : Int × Int} (hk : 200 ≤ k ∧ k ≤ 3000) (h200 : sp.length ≤ 200) (hok : ∀ d ∈ sp, spanErrV a L d.1 d.2.1 d.2.2 = 0) {st : Int × List Int × List Int} (E : BeyI a b T L k sp v 0 st) : iterC (b21_1 a b T L sp k) 1000000000 st = some v := by
  refine iter_inv (b21_1 a b T L sp k) (fun t st => BeyI a b T L k sp v t st) (fun r => r = some v) 300 ?_ ?_ st E 1000000000 (by omega)
  · rintro t ⟨t', lo, hi⟩ ht E
    have e1 := E.tick
    simp only at e1
    subst e1
    have hb := E.box
    simp only at hb
    have hl := hb.hi.len
    have hcl := hb.hi.ok.cells
    unfold b21_1
    have hin : ∀ z : Ctl (Int × List Int × List Int) (Int × Int), b21_2 a b T L sp k ((t : Int), lo, hi) (hi.length : Int) = .out (some z) → iterC (b21_2 a b T L sp k ((t : Int), lo, hi)) 1000000000 0 = some (if hi.any (hotter T k) = true then .out (some ((t : Int), 0)) else z) := fun z hz => by
      refine iter_suf (τ := Unit) hi (b21_2 a b T L sp k ((t : Int), lo, hi)) (fun i _ => (i : Int)) (fun r _ => some (if r.any (hotter T k) = true then .out (some ((t : Int), 0)) else z)) (fun _ _ => True) (by omega) (fun i u r hi' _ _ => ?_) (fun u _ => by rw [hz]; rfl) () trivial
      simp only [b21_2, ltN hi', if_true, if_pos (rgN hi'), Int.toNat_natCast, wS i (by omega), q51 hb.hi.ok hk (hb.hi.ins _ (getD_mem hi')), bindC]
      rw [show (hi.getD i default :: r).any (hotter T k) = (hotter T k (hi.getD i default) || r.any (hotter T k)) from rfl]
      cases hq : hotter T k (hi.getD i default) with
      | true => right; rfl
      | false => left; exact ⟨(), rfl, trivial, by rw [Bool.false_or]⟩
    by_cases hh : hi.any (hotter T k) = true
    · right
      have hz : ∃ z, b21_2 a b T L sp k ((t : Int), lo, hi) (hi.length : Int) = .out (some z) := by
        unfold b21_2
        rw [if_neg (by simp)]
        exact ⟨_, rfl⟩
      obtain ⟨z, hz⟩ := hz
      rw [hin z hz, if_pos hh]
      have := E.val
      simp only at this
      rw [bey_hot hh] at this
      exact ⟨_, rfl, by rw [this]⟩
    · by_cases htl : t = sp.length
      · right
        have hz : b21_2 a b T L sp k ((t : Int), lo, hi) (hi.length : Int) = .out (some (.out (some (0, 12)))) := by
          unfold b21_2
          rw [if_neg (by simp)]
          simp only
          rw [if_pos (by rw [beq_iff_eq]; omega)]
        rw [hin _ hz, if_neg hh]
        have := E.val
        simp only at this
        rw [htl, List.drop_length, bey_nil hh] at this
        exact ⟨_, rfl, by rw [this]⟩
      · have hlt : t < sp.length := by have := E.le; omega
        obtain ⟨g1, g2⟩ := bey_round hok E hh hlt
        simp only at g1 g2
        have hz : b21_2 a b T L sp k ((t : Int), lo, hi) (hi.length : Int) = .out (some (if (!(bxB (boxS b T L lo hi (sp.getD t default))).2.2) = true then .out (some (0, 22)) else .next ((t : Int) + 1, (bxB (boxS b T L lo hi (sp.getD t default))).1, (bxB (boxS b T L lo hi (sp.getD t default))).2.1))) := by
          unfold b21_2
          rw [if_neg (by simp)]
          simp only
          rw [if_neg (by rw [beq_iff_eq]; omega), if_pos (rgN hlt), Int.toNat_natCast, p49 hb (hok _ (getD_mem hlt))]
          simp only [bindC]
          rw [wS t (by omega)]
        rw [hin _ hz, if_neg hh]
        cases hx : boxS b T L lo hi (sp.getD t default) with
        | none =>
          right
          rw [g1 hx]
          exact ⟨_, rfl, rfl⟩
        | some y =>
          left
          exact ⟨_, rfl, g2 y hx⟩
  · rintro ⟨t', lo, hi⟩ E
    have := E.le
    omega
theorem runB_in {b : Int} {T : List (Int × Int)} {L : List (List (Int × Int))} : ∀ (l : List ((List (Int × Int)) × Int × Int)) (lo hi : List Int) (z : List (List Int × List Int)), runB b T L lo hi l = some z → ∀ y ∈ z, inS T y.1 ∧ inS T y.2
  | [], lo, hi, z, h, y, hy => by cases h; simp at hy
  | d :: r, lo, hi, z, h, y, hy => by
    obtain ⟨w, q, hw, hq, rfl⟩ := runB_cons h
    rcases List.mem_cons.1 hy with rfl | hy
    · unfold boxS at hw
      split at hw
      · rename_i hc
        cases hw
        rw [List.all_eq_true, List.all_eq_true] at hc
        exact hc
      · cases hw
    · exact runB_in r _ _ q hq y hy
theorem q20 {a b : Int} {T : List (Int × Int)} {L : List (List (Int × Int))} {lo hi : List Int} {l : List ((List (Int × Int)) × Int × Int)} {k : Int} (H : BoxOk a b T L lo hi) (hz : spansErrV a L l = 0) (hk : 200 ≤ k ∧ k ≤ 3000) :
    r20 a b T L lo hi l k = some (((runB b T L lo hi l).map fun z => (depS T k (peaksS lo (z.map (·.1))), depS T k (peaksS hi (z.map (·.2))), true)).getD (0, 0, false)) := by
  have h1 := H.lo.len
  have h2 := H.hi.len
  have h3 := H.lo.ok.cells
  have h200 := (spans_ok hz).1
  unfold r20
  rw [p51 H hz, Option.bind_some]
  cases hr : runB b T L lo hi l with
  | none => rfl
  | some z =>
    have hzl := runB_len l lo hi z hr
    have hzi := runB_in l lo hi z hr
    rw [show bxG (some z) [] = (z, true) from rfl, if_neg (show ¬ ((!(z, true).2) = true) by simp), p19 lo (by omega), Option.bind_some, p19 hi (by omega), Option.bind_some]
    refine iter_suf (fuel := 1000000000) (τ := List Int × List Int) z (b20_1 a b T L k (z, true)) (fun i t => ((i : Int), t.1, t.2)) (fun r t => some (depS T k (peaksS t.1 (r.map (·.1))), depS T k (peaksS t.2 (r.map (·.2))), true)) (fun _ t => t.1.length = lo.length ∧ t.2.length = hi.length ∧ inS T t.1 ∧ inS T t.2) (by omega) (fun i t r hi' ht _ => ?_) (fun t ht => ?_) (lo, hi) ⟨rfl, rfl, H.lo.ins, H.hi.ins⟩
    · left
      have g1 := hzl.2 _ (getD_mem hi')
      have g2 := hzi _ (getD_mem hi')
      refine ⟨(zipG mx t.1 (z.getD i default).1, zipG mx t.2 (z.getD i default).2), ?_, ⟨by rw [zipG_len]; exact ht.1, by rw [zipG_len]; exact ht.2.1, fun x hx => ?_, fun x hx => ?_⟩, rfl⟩
      · simp only [b20_1, ltN hi', if_true, if_pos (rgN hi'), Int.toNat_natCast, wS i (by omega), p136 t.1 (z.getD i default).1 (by omega) (by omega), p136 t.2 (z.getD i default).2 (by omega) (by omega), bindC]
        rfl
      · rcases zip_mem _ _ _ hx with h | h
        · exact ht.2.2.1 x h
        · exact g2.1 x h
      · rcases zip_mem _ _ _ hx with h | h
        · exact ht.2.2.2 x h
        · exact g2.2 x h
    · simp only [b20_1]
      rw [if_neg (by simp), p98 H.lo.ok hk (by omega) ht.2.2.1, Option.bind_some, p98 H.lo.ok hk (by omega) ht.2.2.2, Option.bind_some]
      rfl
/-- the error of a history -/
def hisErr (a b : Int) (T : List (Int × Int)) (L : List (List (Int × Int))) (lo hi : List Int) (l : List ((List (Int × Int)) × Int × Int)) (k : Int) : Int := firstE (bxErr a b T L lo hi) (firstE (spansErrV a L l) (codeIf (inR k 200 3000) 2))
theorem q35 (a b : Int) (T : List (Int × Int)) (L : List (List (Int × Int))) (lo hi : List Int) (l : List ((List (Int × Int)) × Int × Int)) (k : Int) (hT : T.length < 1000) (hn : L.length < 1000) (hL : ∀ x ∈ L, x.length < 1000) (h1 : lo.length < 1000000) (h2 : hi.length < 1000000) (hl : l.length < 1000000) (hdl : ∀ d ∈ l, d.1.length < 1000000) :
    ∃ v, r35 a b T L lo hi l k = some v ∧ v.2.2.2.2.2.2 = hisErr a b T L lo hi l k ∧ (hisErr a b T L lo hi l k = 0 → v = (a, b, T, L, T, L, 0)) := by
  unfold r35 hisErr
  rw [p115 a b T L lo hi hT hn hL h1 h2, Option.bind_some]
  by_cases h : bxErr a b T L lo hi = 0
  · rw [openBx_ok h, if_pos (by rfl), h]
    simp only
    rw [p118 a b T L T L l hn hl hdl, Option.bind_some, p93, Option.bind_some, p91 _ (by simp), Option.bind_some, firstV2]
    exact ⟨_, rfl, rfl, fun h0 => by rw [show firstE (0 : Int) (firstE (spansErrV a L l) (codeIf (inR k 200 3000) 2)) = firstE (spansErrV a L l) (codeIf (inR k 200 3000) 2) from rfl] at h0; rw [h0]⟩
  · have ho := openBx_err a b T L lo hi
    rw [if_neg (by rw [ho]; simpa using h)]
    have e : firstE (bxErr a b T L lo hi) (firstE (spansErrV a L l) (codeIf (inR k 200 3000) 2)) = bxErr a b T L lo hi := by unfold firstE; rw [if_neg h]
    rw [e]
    exact ⟨_, rfl, ho, fun h0 => absurd h0 h⟩
theorem his_ok {a b : Int} {T : List (Int × Int)} {L : List (List (Int × Int))} {lo hi : List Int} {l : List ((List (Int × Int)) × Int × Int)} {k : Int} (h : hisErr a b T L lo hi l k = 0) : bxErr a b T L lo hi = 0 ∧ spansErrV a L l = 0 ∧ 200 ≤ k ∧ k ≤ 3000 := by
  obtain ⟨h1, h2⟩ := firstE_eq0 h
  obtain ⟨h3, h4⟩ := firstE_eq0 h2
  exact ⟨h1, h3, inR_iff.1 (codeIf0 h4 (by decide))⟩
theorem q11 (a b : Int) (T : List (Int × Int)) (L : List (List (Int × Int))) (lo hi : List Int) (l : List ((List (Int × Int)) × Int × Int)) (k : Int) (hT : T.length < 1000) (hn : L.length < 1000) (hL : ∀ x ∈ L, x.length < 1000) (h1 : lo.length < 1000000) (h2 : hi.length < 1000000) (hl : l.length < 1000000) (hdl : ∀ d ∈ l, d.1.length < 1000000) :
    r11 a b T L lo hi l k = some (if hisErr a b T L lo hi l k = 0 then depV T k lo hi (runB b T L lo hi l) else (0, 0, hisErr a b T L lo hi l k)) := by
  by_cases h : hisErr a b T L lo hi l k = 0
  · obtain ⟨g1, g2, g3⟩ := his_ok h
    rw [if_pos h, p84 g1 g2 g3 hT hn hL hdl]
  · obtain ⟨v, e1, e2, _⟩ := q35 a b T L lo hi l k hT hn hL h1 h2 hl hdl
    rw [if_neg h]
    unfold r11
    rw [e1, Option.bind_some, if_pos (by rw [e2]; simpa using h), e2]
theorem q14 (a b : Int) (T : List (Int × Int)) (L : List (List (Int × Int))) (lo hi : List Int) (l : List ((List (Int × Int)) × Int × Int)) (k : Int) (hT : T.length < 1000) (hn : L.length < 1000) (hL : ∀ x ∈ L, x.length < 1000) (h1 : lo.length < 1000000) (h2 : hi.length < 1000000) (hl : l.length < 1000000) (hdl : ∀ d ∈ l, d.1.length < 1000000) :
    r14 a b T L lo hi l k = some (if hisErr a b T L lo hi l k = 0 then beyS b T L k lo hi l 0 else (0, hisErr a b T L lo hi l k)) := by
  obtain ⟨v, e1, e2, e3⟩ := q35 a b T L lo hi l k hT hn hL h1 h2 hl hdl
  unfold r14
  rw [e1, Option.bind_some]
  by_cases h : hisErr a b T L lo hi l k = 0
  · obtain ⟨g1, g2, g3⟩ := his_ok h
    obtain ⟨h200, hok⟩ := spans_ok g2
    rw [if_pos h, if_neg (by rw [e2]; simpa using h), e3 h]
    exact q14_loop g3 h200 hok 0 ⟨rfl, by omega, boxOk_of g1, by simp⟩
  · rw [if_neg h, if_pos (by rw [e2]; simpa using h), e2]
/-- what is compared of histories -/
def tail3 (a b : Int) (T : List (Int × Int)) (L : List (List (Int × Int))) (lo hi : List Int) (l : List ((List (Int × Int)) × Int × Int)) (k : Int) (v8 : Int × Int × Int) (v9 : Int × Int) : Option Bool :=
  (r18 a b T L lo hi).bind fun v12 =>
    if (v12 == 0) = true then
      (r19 a b T L l k).bind fun v13 =>
        if (v13 != 0) = true then
          some ((((v8.2.2 == v13) && (v9.2 == v13)) && ((v8.1 == 0) && (v8.2.1 == 0))) && (v9.1 == 0))
        else (r20 a b T L lo hi l k).bind fun v14 =>
          if (((!v14.2.2) && ((v8.2.2 != 22) || (!((v8.1 == 0) && (v8.2.1 == 0))))) || (v14.2.2 && ((v8.2.2 != 0) || (!((v8.1 == v14.1) && (v8.2.1 == v14.2.1)))))) = true then
            some false
          else (r21 a b T L lo hi l k).bind fun v15 =>
            some ((v9.2 == v15.2) && (v9.1 == v15.1))
    else if (v12 != 0) = true then
      some ((((v8.2.2 == v12) && (v9.2 == v12)) && ((v8.1 == 0) && (v8.2.1 == 0))) && (v9.1 == 0))
    else (r20 a b T L lo hi l k).bind fun v16 =>
      if (((!v16.2.2) && ((v8.2.2 != 22) || (!((v8.1 == 0) && (v8.2.1 == 0))))) || (v16.2.2 && ((v8.2.2 != 0) || (!((v8.1 == v16.1) && (v8.2.1 == v16.2.1)))))) = true then
        some false
      else (r21 a b T L lo hi l k).bind fun v17 =>
        some ((v9.2 == v17.2) && (v9.1 == v17.1))
theorem p_tail3 (a b : Int) (T : List (Int × Int)) (L : List (List (Int × Int))) (lo hi : List Int) (l : List ((List (Int × Int)) × Int × Int)) (k : Int) (hT : T.length < 1000) (hn : L.length < 1000) (hL : ∀ x ∈ L, x.length < 1000) (h1 : lo.length < 1000000) (h2 : hi.length < 1000000) (hl : l.length < 1000000) (hdl : ∀ d ∈ l, d.1.length < 1000000) :
    tail3 a b T L lo hi l k (if hisErr a b T L lo hi l k = 0 then depV T k lo hi (runB b T L lo hi l) else (0, 0, hisErr a b T L lo hi l k)) (if hisErr a b T L lo hi l k = 0 then beyS b T L k lo hi l 0 else (0, hisErr a b T L lo hi l k)) = some true := by
  unfold tail3
  rw [p82 a b T L lo hi hn hL h1 h2, Option.bind_some]
  by_cases hb : bxErr a b T L lo hi = 0
  · rw [if_pos (by simpa using hb), p83 a b T L l k hn hl hdl, Option.bind_some]
    have he : hisErr a b T L lo hi l k = firstE (spansErrV a L l) (codeIf (inR k 200 3000) 2) := by unfold hisErr; rw [hb]; rfl
    by_cases h : hisErr a b T L lo hi l k = 0
    · obtain ⟨_, g2, g3⟩ := his_ok h
      obtain ⟨h200, hok⟩ := spans_ok g2
      have H := boxOk_of hb
      rw [← he, if_neg (by simpa using h), if_pos h, if_pos h, q20 H g2 g3, Option.bind_some]
      have e21 : r21 a b T L lo hi l k = some (beyS b T L k lo hi l 0) := by
        unfold r21
        exact q21_loop g3 h200 hok ⟨rfl, by omega, H, by simp⟩
      rw [e21]
      generalize beyS b T L k lo hi l 0 = v
      cases runB b T L lo hi l with
      | none =>
        rw [show depV T k lo hi none = (0, 0, 22) from rfl]
        simp
      | some z =>
        rw [show depV T k lo hi (some z) = (depS T k (peaksS lo (z.map (·.1))), depS T k (peaksS hi (z.map (·.2))), 0) from rfl]
        simp
    · rw [← he, if_pos (by simpa using h), if_neg h, if_neg h]
      simp
  · have he : hisErr a b T L lo hi l k = bxErr a b T L lo hi := by unfold hisErr firstE; rw [if_neg hb]
    have h : ¬ hisErr a b T L lo hi l k = 0 := by rw [he]; exact hb
    rw [if_neg (by simpa using hb), if_pos (by simpa using hb), if_neg h, if_neg h, he]
    simp
theorem depths (a b : Int) (T : List (Int × Int)) (L : List (List (Int × Int))) (lo hi : List Int) (l : List ((List (Int × Int)) × Int × Int)) (k : Int) (hlen : l.length ≤ 9223372036854775807) : r3 a b T L lo hi l k = some true := by
  unfold r3
  rw [awake, Option.bind_some, if_neg (by simp), p15, Option.bind_some, p16, gS, Option.getD_some, p16, gS, Option.getD_some, p38 l hlen, gS, Option.getD_some]
  by_cases hf : (((((!fewV T L) || (!decide ((lo.length : Int) ≤ 14))) || (!decide ((hi.length : Int) ≤ 14))) || (!fewS l))) = true
  · rw [if_pos hf]
  · rw [if_neg hf]
    simp only [Bool.or_eq_true, Bool.not_eq_true', not_or, Bool.not_eq_false, decide_eq_true_eq] at hf
    obtain ⟨h1, h2, h3⟩ := few_of hf.1.1.1
    have hlo := hf.1.1.2
    have hhi := hf.1.2
    obtain ⟨hl, hdd⟩ := fewS_of hf.2
    have hdl : ∀ d ∈ l, d.1.length < 1000000 := fun d hd' => by have := hdd d hd'; omega
    have ht := p_tail3 a b T L lo hi l k (by omega) (by omega) h3 (by omega) (by omega) (by omega) hdl
    rw [p18 a b T L (by omega) (by omega) h3, Option.bind_some, p19 lo (by omega), Option.bind_some]
    simp only
    rw [p77 a b T L lo k (by omega) (by omega) h3 (by omega), Option.bind_some, p40 lo hi (by omega) (by omega), Option.bind_some, r13, p44 l (by omega) hdl, Option.bind_some, Option.bind_some]
    simp only
    rw [q11 a b T L lo hi l k (by omega) (by omega) h3 (by omega) (by omega) (by omega) hdl, Option.bind_some, q14 a b T L lo hi l k (by omega) (by omega) h3 (by omega) (by omega) (by omega) hdl, Option.bind_some, p21 a b T L lo (by omega) (by omega) h3 (by omega), Option.bind_some]
    by_cases hst : stErr a b T L lo = 0
    · have H := allOk_of hst
      rw [if_pos (by simpa using hst), p97, Option.bind_some, hst]
      have e0 : ∀ e : Int, firstE 0 e = e := fun e => rfl
      rw [e0]
      cases hk : inR k 200 3000 with
      | true =>
        rw [show codeIf true 2 = 0 from rfl, show (if (0 : Int) = 0 then (depS T k lo, (0 : Int)) else (0, 0)) = (depS T k lo, 0) from if_pos rfl]
        simp only
        rw [p98 H.ok (inR_iff.1 hk) (by omega) H.ins, gS, Option.getD_some, if_neg (by simp)]
        exact ht
      | false =>
        rw [show codeIf false 2 = 2 from rfl, show (if (2 : Int) = 0 then (depS T k lo, (0 : Int)) else (0, 2)) = (0, 2) from if_neg (by decide)]
        rw [if_pos (by simp), if_neg (by simp)]
        exact ht
    · have e1 : firstE (stErr a b T L lo) (codeIf (inR k 200 3000) 2) = stErr a b T L lo := by unfold firstE; rw [if_neg hst]
      have hb : (stErr a b T L lo == 0) = false := by simpa using hst
      rw [if_neg (by simpa using hst), e1, if_neg hst]
      simp only
      rw [if_pos (by rw [hb]; simp), if_neg (by rw [hb]; simp)]
      exact ht
end Go.Proofs.YtcbiiijnaeibhaaGreat

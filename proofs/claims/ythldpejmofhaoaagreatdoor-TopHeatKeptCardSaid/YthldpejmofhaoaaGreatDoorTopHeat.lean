/- Heated and cooled without a lost joule: runs, sums, peaks, boxes; the law. -/
import Derived.Test.YthldpejmofhaoaaGreatDoorHeatQ
import Derived.Test.YthldpejmofhaoaaGreatDoorHeatE
import Derived.Test.YthldpejmofhaoaaGreatDoorHeatT
import Derived.Test.YthldpejmofhaoaaGreatDoorF08
import Derived.Test.YthldpejmofhaoaaGreatDoorHeatBy
import Derived.Test.YthldpejmofhaoaaGreatDoorStrG
set_option linter.unusedVariables false
set_option linter.unusedSimpArgs false
namespace Go.Proofs.YthldpejmofhaoaaGreatDoor
open Go.Abs
abbrev DL := List (List Int × Int)
abbrev TL := List (Int × Int)
def sumIn : DL → Int
  | [] => 0
  | d :: r => sumL d.1 + sumIn r
theorem run_cons {b : Int} {T : TL} {L : List TL} {s : List Int} {d : List Int × Int} {r : DL} {y : List (List Int) × Int} (h : runS b T L s (d :: r) = some y) :
    (outS b T (L.getD d.2.toNat default) s d.1).all (inT T) = true ∧ ∃ z, runS b T L (outS b T (L.getD d.2.toNat default) s d.1) r = some z ∧ y = (outS b T (L.getD d.2.toNat default) s d.1 :: z.1, lossS T (L.getD d.2.toNat default) (hd (mixS b T s)) + z.2) := by
  unfold runS at h
  split at h
  · rename_i hc
    cases hr : runS b T L (outS b T (L.getD d.2.toNat default) s d.1) r with
    | none => rw [hr] at h; cases h
    | some z => rw [hr] at h; cases h; exact ⟨hc, z, rfl, rfl⟩
  · cases h
/-- a run of drives that are in order: states in order, nothing is lost but what is lost -/
theorem run_all {a b : Int} {T : TL} {L : List TL} : ∀ (l : DL) (s : List Int) (y : List (List Int) × Int), AllOk a b T L s → (∀ d ∈ l, driveErrV a L d.1 d.2 = 0) → runS b T L s l = some y →
    AllOk a b T L (lastS s y.1) ∧ (∀ x ∈ y.1, AllOk a b T L x) ∧ sumL (lastS s y.1) = sumL s + sumIn l - y.2 ∧ 0 ≤ y.2 ∧ y.2 ≤ 1000 * l.length ∧ y.1.length = l.length
  | [], s, y, H, _, h => by cases h; exact ⟨H, by simp, by simp [sumIn, lastS], by simp, by simp, rfl⟩
  | d :: r, s, y, H, hok, h => by
    obtain ⟨hc, z, hr, rfl⟩ := run_cons h
    have hd0 := hok d (by simp)
    have H1 := H.next hc
    obtain ⟨i1, i2, i3, i4, i5, i6⟩ := run_all r _ z H1 (fun x hx => hok x (List.mem_cons_of_mem _ hx)) hr
    have D := drive_ok hd0
    have hl := H.len
    have hcells := H.ok.cells
    have lr := loss_rng H.ok (hd (mixS b T s)) D.2.2
    have hs := outS_sum b T (L.getD d.2.toNat default) s d.1 (by omega) (by intro h0; rw [h0] at hl; simp at hl; omega)
    refine ⟨i1, fun x hx => ?_, ?_, ?_, ?_, ?_⟩
    · rcases List.mem_cons.1 hx with rfl | hx
      · exact H1
      · exact i2 x hx
    · show sumL (lastS _ z.1) = _
      rw [i3, hs]; simp only [sumIn]; omega
    · show 0 ≤ _ + z.2; omega
    · show _ + z.2 ≤ _
      rw [List.length_cons]; omega
    · simp [i6]
theorem run_app {b : Int} {T : TL} {L : List TL} : ∀ (l m : DL) (s : List Int), runS b T L s (l ++ m) = (runS b T L s l).bind fun y => (runS b T L (lastS s y.1) m).map fun z => (y.1 ++ z.1, y.2 + z.2)
  | [], m, s => by
    have e : runS b T L s [] = some ([], 0) := by unfold runS; rfl
    rw [List.nil_append, e, Option.bind_some]
    show _ = (runS b T L s m).map _
    cases runS b T L s m with
    | none => rfl
    | some z => simp
  | d :: r, m, s => by
    rw [List.cons_append]
    by_cases hc : (outS b T (L.getD d.2.toNat default) s d.1).all (inT T) = true
    · have e : ∀ q : DL, runS b T L s (d :: q) = (runS b T L (outS b T (L.getD d.2.toNat default) s d.1) q).map fun y => (outS b T (L.getD d.2.toNat default) s d.1 :: y.1, lossS T (L.getD d.2.toNat default) (hd (mixS b T s)) + y.2) := fun q => by
        conv => lhs; unfold runS
        rw [if_pos hc]
      rw [e, e, run_app r m]
      cases runS b T L (outS b T (L.getD d.2.toNat default) s d.1) r with
      | none => rfl
      | some y =>
        rw [Option.bind_some, Option.map_some, Option.bind_some]
        show _ = (runS b T L (lastS (outS b T (L.getD d.2.toNat default) s d.1) y.1) m).map _
        cases runS b T L (lastS (outS b T (L.getD d.2.toNat default) s d.1) y.1) m with
        | none => rfl
        | some z => simp [Int.add_assoc]
    · rw [run_none hc, run_none hc]; rfl
theorem lastS_app : ∀ (x y : List (List Int)) (s : List Int), lastS s (x ++ y) = lastS (lastS s x) y
  | [], _, _ => rfl
  | z :: r, y, _ => lastS_app r y z
theorem last_getD : ∀ (y : List (List Int)) (s : List Int), y.length ≠ 0 → y.getD (y.length - 1) default = lastS s y
  | [], s, h => absurd rfl h
  | [x], s, _ => rfl
  | x :: z :: r, s, _ => by
    have := last_getD (z :: r) x (by simp)
    simpa [lastS] using this
theorem inW_eq : ∀ (l : DL) (acc : Int), (∀ d ∈ l, sumW 0 d.1 = sumL d.1 ∧ 0 ≤ sumL d.1 ∧ sumL d.1 ≤ 120000) → 0 ≤ acc → acc + 120000 * (l.length : Int) ≤ 1000000000000 → inW acc l = acc + sumIn l ∧ 0 ≤ sumIn l ∧ sumIn l ≤ 120000 * (l.length : Int)
  | [], acc, _, _, _ => by simp [inW, sumIn]
  | d :: r, acc, h, h0, h1 => by
    obtain ⟨e1, e2, e3⟩ := h d (by simp)
    rw [List.length_cons] at h1
    have ih := inW_eq r (acc + sumL d.1) (fun x hx => h x (List.mem_cons_of_mem _ hx)) (by omega) (by omega)
    simp only [inW, sumIn, e1]
    rw [IntWalk.i64_in _ ⟨by omega, by omega⟩, ih.1, List.length_cons]
    omega
theorem sumIn_app : ∀ (l m : DL), sumIn (l ++ m) = sumIn l + sumIn m
  | [], m => by simp [sumIn]
  | d :: r, m => by simp only [List.cons_append, sumIn, sumIn_app r m]; omega
theorem leL_rfl : ∀ l : List Int, leL l l
  | [] => trivial
  | x :: r => ⟨Int.le_refl x, leL_rfl r⟩
theorem leL_tr : ∀ {l m n : List Int}, leL l m → leL m n → leL l n
  | [], [], [], _, _ => trivial
  | x :: l, y :: m, z :: n, h1, h2 => ⟨Int.le_trans h1.1 h2.1, leL_tr h1.2 h2.2⟩
  | [], [], _ :: _, _, h => h.elim
  | [], _ :: _, _, h, _ => h.elim
  | _ :: _, [], _, h, _ => h.elim
  | _ :: _, _ :: _, [], _, h => h.elim
theorem zip_ge : ∀ (l m : List Int), l.length = m.length → leL l (zipG mx l m) ∧ leL m (zipG mx l m)
  | [], [], _ => ⟨trivial, trivial⟩
  | x :: l, y :: m, h => by
    have := zip_ge l m (by simpa using h)
    simp only [zipG, leL]
    unfold mx
    refine ⟨⟨?_, this.1⟩, ?_, this.2⟩ <;> split <;> omega
  | [], _ :: _, h => by simp at h
  | _ :: _, [], h => by simp at h
theorem peaks_ge : ∀ (st : List (List Int)) (s : List Int), (∀ x ∈ st, x.length = s.length) → leL s (peaksS s st) ∧ ∀ x ∈ st, leL x (peaksS s st)
  | [], s, _ => ⟨leL_rfl s, by simp⟩
  | y :: r, s, h => by
    have hy := h y (by simp)
    obtain ⟨z1, z2⟩ := zip_ge s y hy.symm
    obtain ⟨i1, i2⟩ := peaks_ge r (zipG mx s y) (fun x hx => by rw [zipG_len]; exact h x (List.mem_cons_of_mem _ hx))
    refine ⟨leL_tr z1 i1, fun x hx => ?_⟩
    rcases List.mem_cons.1 hx with rfl | hx
    · exact leL_tr z2 i1
    · exact i2 x hx
theorem lastS_mem : ∀ (st : List (List Int)) (s : List Int), lastS s st = s ∨ lastS s st ∈ st
  | [], s => .inl rfl
  | x :: r, s => .inr (by
    rcases lastS_mem r x with h | h
    · show lastS x r ∈ _; rw [h]; simp
    · exact List.mem_cons_of_mem _ h)
theorem short_run {b : Int} {T : TL} {L : List TL} {law k d most n : Int} {p : List Int} : ∀ (fuel : Nat) (s : List Int) (t : Int), shortS b T (L.getD law.toNat default) p k d most fuel s t = (n, 0) → t ≤ most →
    t ≤ n ∧ n ≤ most ∧ ∃ y, runS b T L s (List.replicate (n - t).toNat (p, law)) = some y ∧ d ≤ depS T k (lastS s y.1)
  | 0, s, t, h, _ => by simp [shortS] at h
  | f + 1, s, t, h, ht => by
    unfold shortS at h
    by_cases c1 : d ≤ depS T k s
    · rw [if_pos c1] at h
      have e : n = t := by have := congrArg Prod.fst h; exact this.symm
      subst e
      refine ⟨by omega, ht, ([], 0), ?_, c1⟩
      rw [show (n - n).toNat = 0 by omega]; unfold runS; rfl
    · rw [if_neg c1] at h
      by_cases c2 : t = most
      · rw [if_pos c2] at h; have := congrArg Prod.snd h; cases this
      · rw [if_neg c2] at h
        by_cases c3 : (outS b T (L.getD law.toNat default) s p).all (inT T) = true
        · rw [if_pos c3] at h
          obtain ⟨i1, i2, y, i3, i4⟩ := short_run f _ (t + 1) h (by omega)
          refine ⟨by omega, i2, (outS b T (L.getD law.toNat default) s p :: y.1, lossS T (L.getD law.toNat default) (hd (mixS b T s)) + y.2), ?_, i4⟩
          rw [show (n - t).toNat = (n - (t + 1)).toNat + 1 by omega, List.replicate_succ]
          conv => lhs; unfold runS
          rw [if_pos c3, i3]; rfl
        · rw [if_neg c3] at h; have := congrArg Prod.snd h; cases this
/-- the greatest number -/
def maxL : Int → List Int → Int
  | m, [] => m
  | m, x :: r => maxL (if m < x then x else m) r
theorem maxL_ge : ∀ (l : List Int) (m : Int), m ≤ maxL m l ∧ ∀ x ∈ l, x ≤ maxL m l
  | [], m => ⟨Int.le_refl _, by simp⟩
  | y :: r, m => by
    obtain ⟨h1, h2⟩ := maxL_ge r (if m < y then y else m)
    simp only [maxL]
    have h3 : m ≤ (if m < y then y else m) ∧ y ≤ (if m < y then y else m) := by split <;> omega
    refine ⟨by omega, fun x hx => ?_⟩
    rcases List.mem_cons.1 hx with rfl | hx
    · omega
    · exact h2 x hx
theorem maxL_mem : ∀ (l : List Int) (m : Int), maxL m l = m ∨ maxL m l ∈ l
  | [], m => .inl rfl
  | y :: r, m => by
    simp only [maxL]
    rcases maxL_mem r (if m < y then y else m) with h | h
    · rw [h]; split
      · exact .inr (by simp)
      · exact .inl rfl
    · exact .inr (List.mem_cons_of_mem _ h)
def topL (l : List Int) : Int := maxL (l.getD 0 default) l
theorem topL_le {l : List Int} (h0 : 0 < l.length) {M : Int} (h : ∀ x ∈ l, x ≤ M) : topL l ≤ M := by
  rcases maxL_mem l (l.getD 0 default) with e | e
  · unfold topL; rw [e]; exact h _ (getD_mem h0)
  · exact h _ e
theorem subH_le {n M : Int} (hn : 0 ≤ n) : ∀ l : List Int, (∀ x ∈ l, x ≤ M) → ∀ x ∈ subH n l, x ≤ M
  | [], h, x, hx => by simp [subH] at hx
  | y :: r, h, x, hx => by
    simp only [subH, List.mem_cons] at hx
    have := h y (by simp)
    rcases hx with rfl | hx
    · omega
    · exact h x (List.mem_cons_of_mem _ hx)
theorem cool_le {a b : Int} {T : TL} {L : List TL} {s p : List Int} {law : Int} (H : AllOk a b T L s) (hl : 0 ≤ law ∧ law < L.length) (hp : ∀ x ∈ p, x = 0) {M : Int} (hM : ∀ x ∈ s, x ≤ M) : ∀ x ∈ outS b T (L.getD law.toNat default) s p, x ≤ M := by
  unfold outS
  rw [addL_zero _ _ hp]
  exact subH_le (loss_rng H.ok _ hl).1 _ (fun x hx => (mixS_in H.ok.mix H.ok.asc (u := 0) (v := M) s (fun y hy => ⟨(inT_rng H.ok (H.ins y hy)).1, hM y hy⟩) x hx).2)
/-- boxes that begin around a state -/
def spn (d : List Int × Int) : List (Int × Int) × Int × Int := (d.1.map fun p => (p, p), d.2, d.2)
theorem spn_map (l : List Int) : ((l.map fun p => (p, p)).map (·.1)) = l ∧ ((l.map fun p => (p, p)).map (·.2)) = l := by
  constructor <;> (rw [List.map_map]; exact List.map_id' l)
theorem runB_lo {b : Int} {T : TL} {L : List TL} : ∀ (l : DL) (lo hi : List Int) (z : List (List Int × List Int)), runB b T L lo hi (l.map spn) = some z → ∃ n, runS b T L lo l = some (z.map (·.1), n)
  | [], lo, hi, z, h => by
    simp only [List.map_nil, runB] at h; cases h
    exact ⟨0, by unfold runS; rfl⟩
  | d :: r, lo, hi, z, h => by
    simp only [List.map_cons, runB] at h
    cases hb : boxS b T L lo hi (spn d) with
    | none => rw [hb] at h; cases h
    | some y =>
      rw [hb, Option.bind_some] at h
      cases hr : runB b T L y.1 y.2 (r.map spn) with
      | none => rw [hr] at h; cases h
      | some w =>
        rw [hr] at h; cases h
        unfold boxS at hb
        simp only [spn, (spn_map d.1).1, (spn_map d.1).2] at hb
        split at hb
        · rename_i hc
          cases hb
          obtain ⟨n, hn⟩ := runB_lo r _ _ w hr
          refine ⟨lossS T (L.getD d.2.toNat default) (hd (mixS b T lo)) + n, ?_⟩
          unfold runS
          rw [if_pos hc.1, hn]; rfl
        · cases hb
theorem runB_le {a b : Int} {T : TL} {L : List TL} : ∀ (l : List (List (Int × Int) × Int × Int)) (lo hi : List Int) (z : List (List Int × List Int)), BoxOk a b T L lo hi → (∀ d ∈ l, spanErrV a L d.1 d.2.1 d.2.2 = 0) → runB b T L lo hi l = some z → leLL (z.map (·.1)) (z.map (·.2))
  | [], lo, hi, z, _, _, h => by simp only [runB] at h; cases h; trivial
  | d :: r, lo, hi, z, H, hd, h => by
    simp only [runB] at h
    cases hb : boxS b T L lo hi d with
    | none => rw [hb] at h; cases h
    | some y =>
      rw [hb, Option.bind_some] at h
      cases hr : runB b T L y.1 y.2 r with
      | none => rw [hr] at h; cases h
      | some w =>
        rw [hr] at h; cases h
        have H1 := H.next (hd d (by simp)) hb
        exact ⟨H1.le, runB_le r _ _ w H1 (fun x hx => hd x (List.mem_cons_of_mem _ hx)) hr⟩
theorem bx_zero {a b : Int} {T : TL} {L : List TL} {lo hi : List Int} (H1 : AllOk a b T L lo) (H2 : AllOk a b T L hi) (h : ∀ j, j < lo.length → lo.getD j default ≤ hi.getD j default) : bxErr a b T L lo hi = 0 := by
  unfold bxErr boxErrV
  rw [if_pos H1.set0, state_zero H1.len H1.ins, state_zero H2.len H2.ins, if_pos rfl, if_pos rfl]
  cases hs : scanN (orderF lo hi) 0 lo.length with
  | none => rfl
  | some v =>
    obtain ⟨j, _, hj, hv⟩ := scan_some hs
    unfold orderF at hv
    rw [if_neg (by have := h j (by omega); omega)] at hv
    cases hv
theorem ranges_zero : ∀ (l : List Int), (∀ x ∈ l, 0 ≤ x ∧ x ≤ 10000) → rangesP (l.map fun p => (p, p)) = 0
  | [], _ => rfl
  | x :: r, h => by
    have hx := h x (by simp)
    have ih := ranges_zero r (fun y hy => h y (List.mem_cons_of_mem _ hy))
    have e1 : inR x 0 10000 = true := inR_iff.2 hx
    simp only [List.map_cons, rangesP, rangeP, ih, e1]
    simp [firstE, codeIf]
theorem spn_zero {a : Int} {L : List TL} {d : List Int × Int} (h : driveErrV a L d.1 d.2 = 0) : spanErrV a L (spn d).1 (spn d).2.1 (spn d).2.2 = 0 := by
  obtain ⟨h1, h2, h3⟩ := drive_ok h
  have e1 : inR d.2 0 ((L.length : Int) - 1) = true := inR_iff.2 ⟨h3.1, by omega⟩
  have e2 : (((d.1.map fun p => (p, p)).length : Int) == a) = true := by rw [List.length_map]; simpa using h1
  simp only [spn, spanErrV, e2, ranges_zero d.1 h2, lawsP, e1]
  simp [firstE, codeIf]
theorem spansE_zero {a : Int} {L : List TL} : ∀ (l : DL), (∀ d ∈ l, driveErrV a L d.1 d.2 = 0) → spansE a L (l.map spn) = 0
  | [], _ => rfl
  | d :: r, h => by
    have ih := spansE_zero r (fun y hy => h y (List.mem_cons_of_mem _ hy))
    simp only [List.map_cons, spansE, spn_zero (h d (by simp)), ih]
    rfl
theorem spans_zero {a : Int} {L : List TL} {l : DL} (hl : l.length ≤ 200) (h : ∀ d ∈ l, driveErrV a L d.1 d.2 = 0) : spansErrV a L (l.map spn) = 0 := by
  have e : (decide (((l.map spn).length : Int) ≤ 200)) = true := by rw [List.length_map, decide_eq_true_eq]; omega
  unfold spansErrV
  rw [spansE_zero l h, e]; rfl
theorem t23 (l : List Int) (h0 : 0 < l.length) (hl : l.length < 1000000000) : r23 l = some (topL l) := by
  unfold r23
  rw [if_pos ⟨by omega, by omega⟩]
  refine iter_suf (τ := Int) l (b23_1 l) (fun i t => (t, (i : Int))) (fun r t => some (maxL t r)) (fun _ _ => True) hl (fun i t r hi _ _ => ?_) (fun t _ => by simp [b23_1, maxL]) (l.getD 0 default) trivial
  left
  simp only [b23_1, ltN hi, if_true, if_pos (rgN hi), Int.toNat_natCast, wS i (by omega)]
  exact ⟨_, rfl, trivial, rfl⟩
theorem set_mid (f : Int → Int) (s : List Int) (i : Nat) (hi : i < s.length) : ((s.map f).take i ++ s.drop i).set i (f (s.getD i default)) = (s.map f).take (i + 1) ++ s.drop (i + 1) := by
  have h1 : ((s.map f).take i).length = i := by simp; omega
  have h2 : s.drop i = s.getD i default :: s.drop (i + 1) := by
    rw [List.drop_eq_getElem_cons hi]; simp [List.getD_eq_getElem?_getD, hi]
  have h3 : (s.map f).take (i + 1) = (s.map f).take i ++ [f (s.getD i default)] := by
    rw [take_ext _ i (by simpa using hi)]
    congr 2
    simp [List.getD_eq_getElem?_getD, hi]
  rw [h3, h2, List.set_append_right _ _ (by omega), h1]
  simp
def hiF (T : TL) (w e : Int) : Int := if e + w < (T.getD (T.length - 1) default).1 then e + w else (T.getD (T.length - 1) default).1
theorem mapD {α β : Type} [Inhabited α] [Inhabited β] (f : α → β) {l : List α} {i : Nat} (h : i < l.length) : (l.map f).getD i default = f (l.getD i default) := by
  rw [List.getD_eq_getElem?_getD, List.getElem?_map, List.getElem?_eq_getElem h, List.getD_eq_getElem?_getD, List.getElem?_eq_getElem h]; rfl
theorem hi_ok {a b : Int} {T : TL} {L : List TL} {s : List Int} (H : AllOk a b T L s) {w : Int} (hw : 0 ≤ w) : AllOk a b T L (s.map (hiF T w)) ∧ ∀ j, j < s.length → s.getD j default ≤ (s.map (hiF T w)).getD j default := by
  refine ⟨⟨H.ok, H.set0, by rw [List.length_map]; exact H.len, fun x hx => ?_⟩, fun j hj => ?_⟩
  · obtain ⟨e, he, rfl⟩ := List.mem_map.1 hx
    have := H.ins e he
    rw [inT_iff H.ok] at this ⊢
    unfold hiF
    split <;> omega
  · have := H.ins _ (getD_mem hj)
    rw [inT_iff H.ok] at this
    rw [mapD _ hj]
    unfold hiF
    split <;> omega
theorem in24_3 (l : DL) (i : Nat) (sp : List (List (Int × Int) × Int × Int)) (hi : i < l.length) (hl : l.length < 1000000) (hsp : sp.length < 1000000) (hd : (l.getD i default).1.length < 1000000) :
    iterC (b24_3 l (sp, (i : Int))) 1000000000 (0, []) = some (.next (sp ++ [spn (l.getD i default)], ((i + 1 : Nat) : Int))) := by
  refine iter_run (l.getD i default).1.length (b24_3 l (sp, (i : Int))) (fun j => ((j : Int), ((l.getD i default).1.take j).map fun p => (p, p))) _ (by omega) (fun j hj => ?_) ?_
  · have hlen : (((l.getD i default).1.take j).map fun p => (p, p)).length = j := by rw [List.length_map, List.length_take]; omega
    simp only [b24_3, if_pos (rgN hi), Int.toNat_natCast, ltN hj, if_true, if_pos (rgN hj), hlen, wS j (by omega)]
    rw [if_pos ⟨by omega, by omega⟩, take_ext _ j hj, List.map_append]
    rfl
  · simp only [b24_3, if_pos (rgN hi), Int.toNat_natCast]
    rw [if_neg (by simp), if_pos ⟨by omega, by omega⟩, List.take_length, wS i (by omega)]
    rfl
theorem t24 {a b : Int} {T : TL} {L : List TL} {s : List Int} {l : DL} {p : List Int} {law k d most law2 cn w : Int} (H : AllOk a b T L s) (hn : L.length < 1000) (hL : ∀ x ∈ L, x.length < 1000) (hok : ∀ d ∈ l, driveErrV a L d.1 d.2 = 0) (h200 : l.length ≤ 200) (hk : 200 ≤ k ∧ k ≤ 3000) (hw : 0 ≤ w ∧ w ≤ 1000)
    {y : List (List Int) × Int} (hrun : runS b T L s l = some y) {x : List Int} (hx : x = s ∨ x ∈ y.1) (hdep : d ≤ depS T k x) : r24 a b T L s l p law k d most law2 cn w = some true := by
  have hT := H.ok.tlt
  have hT0 := H.ok.tpos
  have hc := H.ok.cells
  have hsl := H.len
  have hdl : ∀ d ∈ l, d.1.length < 1000000 := fun d hd => by have := (drive_ok (hok d hd)).1; omega
  obtain ⟨Hh, hle⟩ := hi_ok H hw.1
  have hbx := bx_zero H Hh hle
  have hz := spans_zero h200 hok
  have hz2 : drivesErrV a L l = 0 := drives_zero h200 hok
  have hst := H.stErr
  unfold r24
  rw [wP T.length (by omega), if_pos ⟨by omega, by omega⟩, p19 s (by omega), Option.bind_some]
  have h1 := iter_run s.length (b24_1 a b T L s l k d w s) (fun i => ((i : Int), (s.map (hiF T w)).take i ++ s.drop i)) (some true) (by omega) (fun i hi => ?_) ?_
  · exact h1
  · have he := inT_rng H.ok (H.ins _ (getD_mem hi))
    have hlen : ((s.map (hiF T w)).take i ++ s.drop i).length = s.length := by simp; omega
    simp only [b24_1, ltN hi, if_true, if_pos (rgN hi), hlen, Int.toNat_natCast, wS i (by omega), wP T.length (by omega), wPn]
    rw [IntWalk.i64_in (s.getD i default + w) ⟨by omega, by omega⟩]
    have := set_mid (hiF T w) s i hi
    unfold hiF at this ⊢
    rw [this]; rfl
  · simp only [b24_1]
    rw [if_neg (by simp), List.drop_length, List.append_nil, List.take_of_length_le (by simp)]
    congr 1
    have h2 := iter_run l.length (b24_2 a b T L s l k d s ((s.length : Int), s.map (hiF T w))) (fun i => ((l.take i).map spn, (i : Int))) (some true) (by omega) (fun i hi => ?_) ?_
    · exact h2
    · have := hdl _ (getD_mem hi)
      simp only [b24_2, ltN hi, if_true, if_pos (rgN hi)]
      rw [in24_3 l i _ hi (by omega) (by simp; omega) (by omega), Option.getD_some, take_ext l i hi, List.map_append]
      rfl
    · simp only [b24_2]
      have hml : ∀ q ∈ l.map spn, q.1.length < 1000000 := fun q hq => by
        obtain ⟨e, he, rfl⟩ := List.mem_map.1 hq
        have := hdl e he
        simpa [spn] using this
      have eB : boxRunV a b T L s (s.map (hiF T w)) (l.map spn) = bxF (runB b T L s (s.map (hiF T w)) (l.map spn)) [] := by unfold boxRunV; rw [if_pos hbx, if_pos hz]
      have eR : runV a b T L s l = (y.1, y.2, 0) := by unfold runV; rw [if_pos hst, if_pos hz2, hrun]; simp [runF]
      rw [if_neg (by simp), List.take_length, p18 a b T L hT hn hL, Option.bind_some]
      simp only
      rw [p40 s _ (by omega) (by simp; omega), Option.bind_some, p44 (l.map spn) (by simp; omega) hml, Option.bind_some]
      simp only
      rw [p43 a b T L s (s.map (hiF T w)) (l.map spn) hT hn hL (by omega) (by simp; omega) (by simp; omega) hml, Option.bind_some, p19 s (by omega), Option.bind_some, p67 l (by omega) hdl, Option.bind_some, p66 a b T L s l hT hn hL (by omega) (by omega) hdl, Option.bind_some, p84 hbx hz hk hT hn hL hml, Option.bind_some, eB, eR]
      cases hB : runB b T L s (s.map (hiF T w)) (l.map spn) with
      | none =>
        rw [show bxF none [] = (([] : List (List Int × List Int)), (22 : Int)) from rfl, show depV T k s (s.map (hiF T w)) none = (0, 0, 22) from rfl]
        rfl
      | some z =>
        obtain ⟨n, hlo⟩ := runB_lo l _ _ z hB
        rw [hrun] at hlo
        have ey : y.1 = z.map (·.1) := congrArg Prod.fst (Option.some.inj hlo)
        have hzl : z.length = y.1.length := by rw [ey, List.length_map]
        have R := run_all l s y H hok hrun
        have hyl : ∀ q ∈ y.1, q.length = s.length := fun q hq => by have := (R.2.1 q hq).len; omega
        obtain ⟨g1, g2⟩ := peaks_ge y.1 s hyl
        have hx2 : leL x (peaksS s y.1) := by
          rcases hx with rfl | hx
          · exact g1
          · exact g2 x hx
        have hd1 := dep_mono H.ok.asc (k := k) hx2
        have hd2 := dep_mono H.ok.asc (k := k) (peaks_mono _ _ _ _ (leL_of s (s.map (hiF T w)) (by simp) hle) (runB_le (l.map spn) _ _ z ⟨H, Hh, leL_of s (s.map (hiF T w)) (by simp) hle⟩ (spans_ok hz).2 hB))
        rw [← ey] at hd2
        rw [show bxF (some z) [] = (z, (0 : Int)) from rfl, show depV T k s (s.map (hiF T w)) (some z) = (depS T k (peaksS s (z.map (·.1))), depS T k (peaksS (s.map (hiF T w)) (z.map (·.2))), 0) from rfl, ← ey]
        congr 1
        rw [if_neg (by simp), if_neg (by simp), if_neg (by simp; omega)]
        refine iter_run y.1.length (b24_4 (z, 0) (y.1, 0)) (fun i => (i : Int)) (some true) (by have := R.2.2.2.2.2; omega) (fun i hi => ?_) ?_
        · have hq := hyl _ (getD_mem hi)
          have e : (z.getD i default).1 = y.1.getD i default := by rw [ey, mapD _ (by omega)]
          simp only [b24_4, ltN hi, if_true, if_pos (rgN hi), if_pos (rgN (show i < z.length by omega)), Int.toNat_natCast, e]
          rw [p34 _ (by omega)]
          simp only [bindC]
          rw [if_neg (by simp), wS i (by have := R.2.2.2.2.2; omega)]; rfl
        · simp only [b24_4]
          rw [if_neg (by simp)]
theorem awake6 : r6 = some true := by decide +kernel
theorem short_err {b : Int} {T law : TL} {p : List Int} {k d most : Int} : ∀ (f : Nat) (s : List Int) (t : Int), (shortS b T law p k d most f s t).2 = 0 ∨ (shortS b T law p k d most f s t).2 = 12 ∨ (shortS b T law p k d most f s t).2 = 22
  | 0, s, t => .inr (.inl rfl)
  | f + 1, s, t => by
    unfold shortS
    split
    · exact .inl rfl
    · split
      · exact .inr (.inl rfl)
      · split
        · exact short_err f _ _
        · exact .inr (.inr rfl)
theorem cool_run {a b : Int} {T : TL} {L : List TL} : ∀ (l : DL) (s : List Int) (z : List (List Int) × Int), AllOk a b T L s → (∀ d ∈ l, (∀ x ∈ d.1, x = 0) ∧ driveErrV a L d.1 d.2 = 0) → runS b T L s l = some z → ∀ i, i < z.1.length → topL (z.1.getD i default) ≤ topL (lastS s (z.1.take i))
  | [], s, z, _, _, h, i, hi => by cases h; simp at hi
  | d :: r, s, z, H, hok, h, i, hi => by
    obtain ⟨hc, w, hr, rfl⟩ := run_cons h
    have hd0 := hok d (by simp)
    have H1 := H.next hc
    have hcells := H.ok.cells
    have h1 := H1.len
    cases i with
    | zero =>
      show topL (outS b T (L.getD d.2.toNat default) s d.1) ≤ topL s
      exact topL_le (by omega) (cool_le H (drive_ok hd0.2).2.2 hd0.1 (maxL_ge s _).2)
    | succ i => exact cool_run r _ w H1 (fun x hx => hok x (List.mem_cons_of_mem _ hx)) hr i (by simpa using hi)
theorem after_eq (s : List Int) (y : List (List Int)) : (if y.length = 0 then sumW 0 s else sumW 0 (y.getD (y.length - 1) default)) = sumW 0 (lastS s y) := by
  by_cases h : y.length = 0
  · rw [if_pos h]
    have : y = [] := List.length_eq_zero_iff.1 h
    subst this; rfl
  · rw [if_neg h, last_getD y s h]
theorem bal_some {a b : Int} {T : TL} {L : List TL} {s : List Int} {l : DL} {y : List (List Int) × Int} (H : AllOk a b T L s) (hz : drivesErrV a L l = 0) (h : runS b T L s l = some y) : runV a b T L s l = (y.1, y.2, 0) ∧ balF s l (runV a b T L s l) = (sumW 0 s, inW 0 l, y.2, sumW 0 (lastS s y.1), 0) := by
  have e : runV a b T L s l = (y.1, y.2, 0) := by unfold runV; rw [if_pos H.stErr, if_pos hz, h]; simp [runF]
  refine ⟨e, ?_⟩
  rw [e, ← after_eq]
  rfl
theorem bal_none {a b : Int} {T : TL} {L : List TL} {s : List Int} {l : DL} (H : AllOk a b T L s) (hz : drivesErrV a L l = 0) (h : runS b T L s l = none) : balF s l (runV a b T L s l) = (0, 0, 0, 0, 22) := by
  have e : runV a b T L s l = ([], 0, 22) := by unfold runV; rw [if_pos H.stErr, if_pos hz, h]; rfl
  rw [e]; rfl
theorem tail_ok {a b : Int} {T : TL} {L : List TL} {s p : List Int} {law k d most law2 cn w i9 : Int} {heat cool : DL} {y : List (List Int) × Int} (H : AllOk a b T L s) (hn : L.length < 1000) (hL : ∀ x ∈ L, x.length < 1000)
    (hh : heat.length ≤ 20) (hc : cool.length ≤ 10) (hokh : ∀ d ∈ heat, driveErrV a L d.1 d.2 = 0) (hokc : ∀ d ∈ cool, (∀ x ∈ d.1, x = 0) ∧ driveErrV a L d.1 d.2 = 0) (hk : 200 ≤ k ∧ k ≤ 3000) (hw : 0 ≤ w ∧ w ≤ 1000)
    (hrun : runS b T L s heat = some y) (hdep : d ≤ depS T k (lastS s y.1)) :
    ((r11 ((lastS s y.1).length : Int) a a).bind fun v20 =>
      if (!(!v20)) = true → (r8 a b T L (lastS s y.1)).isSome = true then
       if ((!v20) || (((r8 a b T L (lastS s y.1)).getD default) != 0)) = true then some false
       else if (heat.length + cool.length) * 32 ≤ 140737488355328 ∧ heat.length + cool.length ≤ 9223372036854775807 then
        (r17 (lastS s y.1)).bind fun v21 => (r21 cool).bind fun v22 => (r20 a b T L v21 v22).bind fun v23 => (r21 (heat ++ cool)).bind fun v24 => (r20 a b T L s v24).bind fun v25 =>
         if (v23.2.2.2.2 != v25.2.2.2.2) = true then some false
         else if (v23.2.2.2.2 != 0) = true then some (v23.2.2.2.2 == 22)
         else if ((((((sumW 0 (lastS s y.1) != v23.1) || (inW 0 heat != v25.2.1)) || (v23.2.1 != 0)) || ((IntKind.i64.wrap (y.2 + v23.2.2.1)) != v25.2.2.1)) || (v25.2.2.2.1 != v23.2.2.2.1)) || ((IntKind.i64.wrap (v25.1 + v25.2.1)) != (IntKind.i64.wrap (v25.2.2.1 + v25.2.2.2.1)))) = true then some false
         else (r22 a b T L v21 v22).bind fun v26 =>
           if ((v26.2 != 0) || ((v26.1.length : Int) != (cool.length : Int))) = true then some false
           else (r23 (lastS s y.1)).bind fun v27 => iterC (b3_3 a b T L s p law k d most law2 cn w (cool, i9) heat v26) 1000000000 (v27, 0)
       else none
      else none) = some true := by
  have hT := H.ok.tlt
  have hcells := H.ok.cells
  have hsl := H.len
  obtain ⟨Hh, hall, hsum, l0, l1, hyl⟩ := run_all heat s y H hokh hrun
  have happ := run_app (b := b) (T := T) (L := L) heat cool s
  rw [hrun, Option.bind_some] at happ
  have hot_eq := lastS_mem y.1 s
  generalize hot_def : lastS s y.1 = hot at *
  have hhl := Hh.len
  have hokw : ∀ d ∈ heat ++ cool, driveErrV a L d.1 d.2 = 0 := fun d hd => by
    rcases List.mem_append.1 hd with hd | hd
    · exact hokh d hd
    · exact (hokc d hd).2
  have hdl : ∀ d ∈ heat ++ cool, d.1.length < 1000000 := fun d hd => by have := (drive_ok (hokw d hd)).1; omega
  have hdlc : ∀ d ∈ cool, d.1.length < 1000000 := fun d hd => hdl d (List.mem_append_right _ hd)
  have hwl : (heat ++ cool).length = heat.length + cool.length := List.length_append
  have zc : drivesErrV a L cool = 0 := drives_zero (by omega) (fun d hd => (hokc d hd).2)
  have zw : drivesErrV a L (heat ++ cool) = 0 := drives_zero (by omega) hokw
  have e11 : inR (hot.length : Int) a a = true := inR_iff.2 ⟨by omega, by omega⟩
  rw [p59, Option.bind_some, e11, p21 a b T L hot hT hn hL (by omega), Hh.stErr, if_pos (by intro _; rfl), if_neg (by simp), if_pos ⟨by omega, by omega⟩, p19 hot (by omega), Option.bind_some, p67 cool (by omega) hdlc, Option.bind_some, p68 a b T L hot cool hT hn hL (by omega) (by omega) hdlc, Option.bind_some, p67 _ (by omega) hdl, Option.bind_some, p68 a b T L s _ hT hn hL (by omega) (by omega) hdl, Option.bind_some]
  cases hrc : runS b T L hot cool with
  | none =>
    rw [hrc] at happ
    rw [bal_none Hh zc hrc, bal_none H zw happ]
    rfl
  | some z =>
    rw [hrc] at happ
    have hwr : runS b T L s (heat ++ cool) = some (y.1 ++ z.1, y.2 + z.2) := happ
    obtain ⟨Hl, hallz, hsumz, m0, m1, hzl⟩ := run_all cool hot z Hh (fun d hd => (hokc d hd).2) hrc
    have hlast : lastS s (y.1 ++ z.1) = lastS hot z.1 := by rw [lastS_app, hot_def]
    obtain ⟨ez, bz⟩ := bal_some Hh zc hrc
    obtain ⟨ew, bw⟩ := bal_some H zw hwr
    have dsum : ∀ d ∈ heat ++ cool, sumW 0 d.1 = sumL d.1 ∧ 0 ≤ sumL d.1 ∧ sumL d.1 ≤ 120000 := fun d hd => drive_sum H.ok (hokw d hd)
    have ih := inW_eq heat 0 (fun d hd => dsum d (List.mem_append_left _ hd)) (by omega) (by omega)
    have ic := inW_eq cool 0 (fun d hd => dsum d (List.mem_append_right _ hd)) (by omega) (by omega)
    have iw := inW_eq (heat ++ cool) 0 dsum (by omega) (by omega)
    have ic0 : sumIn cool = 0 := by
      clear bz bw ez ew ic iw ih hzl hsumz m1 hrc happ hwr hallz hwl hc hdl hokw hdlc zc zw dsum Hl hlast
      induction cool with
      | nil => rfl
      | cons d r ihr =>
        have h0 := hokc d (by simp)
        have : sumL d.1 = 0 := by
          have q := sumL_rng (M := 0) d.1 (fun x hx => by have := h0.1 x hx; omega)
          omega
        simp only [sumIn, this, ihr (fun x hx => hokc x (List.mem_cons_of_mem _ hx))]; rfl
    have iapp := sumIn_app heat cool
    have hs := H.sum
    have hls := Hl.sum
    rw [bz, bw, hlast]
    have w1 : IntKind.i64.wrap (y.2 + z.2) = y.2 + z.2 := IntWalk.i64_in _ ⟨by omega, by omega⟩
    have e1 : inW 0 heat = inW 0 (heat ++ cool) := by rw [ih.1, iw.1]; omega
    have e2 : inW 0 cool = 0 := by rw [ic.1]; omega
    have e3 : sumW 0 s + inW 0 (heat ++ cool) = (y.2 + z.2) + sumW 0 (lastS hot z.1) := by rw [hs.1, hls.1, iw.1]; omega
    rw [if_neg (by simp), if_neg (by simp), if_neg (by simp [w1, e1, e2, e3]), p66 a b T L hot cool hT hn hL (by omega) (by omega) hdlc, Option.bind_some, ez, if_neg (by simp [hzl]), t23 hot (by omega) (by omega), Option.bind_some]
    refine iter_suf (τ := Int) z.1 (b3_3 a b T L s p law k d most law2 cn w (cool, i9) heat (z.1, 0)) (fun i t => (t, (i : Int))) (fun _ _ => some true) (fun i t => t = topL (lastS hot (z.1.take i))) (by omega) (fun i t r hi ht _ => ?_) (fun t _ => ?_) (topL hot) rfl
    · left
      have hx := (hallz _ (getD_mem hi)).len
      have hle := cool_run cool hot z Hh hokc hrc i hi
      refine ⟨topL (z.1.getD i default), ?_, ?_, rfl⟩
      · have e23 := t23 (z.1.getD i default) (by omega) (by omega)
        have hcond : (((z.1.getD i default).length : Int) != a || decide (topL (z.1.getD i default) > t)) = false := by
          rw [ht, Bool.or_eq_false_iff]
          exact ⟨by rw [bne_eq_false_iff_eq]; exact hx, by rw [decide_eq_false_iff_not]; omega⟩
        have hr1 : 0 ≤ (i : Int) := by omega
        have hr2 : (i : Int) < (z.1.length : Int) := by omega
        simp only [b3_3, hr1, hr2, decide_true, if_true, Int.toNat_natCast, e23, Option.isSome_some, Option.getD_some, and_self, implies_true, hcond, Bool.false_eq_true, if_false, bindC, wS i (show i < 1000000000 by omega)]
        rfl
      · rw [take_ext z.1 i hi, lastS_snoc]
    · simp only [b3_3]
      rw [if_neg (by simp), t24 H hn hL hokw (by omega) hk hw hwr (x := hot) (by
        rcases hot_eq with h | h
        · exact .inl h
        · exact .inr (List.mem_append_left _ h)) hdep]
      rfl
theorem bd64 {q : Int × Int} (h : Bd q) : In2 q := by
  obtain ⟨⟨h1, h2⟩, h3, h4⟩ := h
  exact ⟨⟨by omega, by omega⟩, ⟨by omega, by omega⟩⟩
theorem t18 (p : List Int) (law k d most : Int) (hp : p.length < 1000000000) : r18 p law k d most = some (p, law, k, d, most) := by
  unfold r18
  rw [p65 p law hp, Option.bind_some]
theorem b34 : b3_4 = b3_3 := rfl
theorem heat_law (a b : Int) (T : TL) (L : List TL) (s p : List Int) (law k d most law2 cn w : Int) : r3 a b T L s p law k d most law2 cn w = some true := by
  unfold r3
  rw [awake6, Option.bind_some, if_neg (by decide), p15, Option.bind_some]
  by_cases hf : (((!(fewV T L)) || (decide ((s.length : Int) > 12))) || (decide ((p.length : Int) > 12))) = true
  · simp only [hf, Bool.true_or, Bool.not_true, Bool.false_eq_true, false_implies, if_true]
  · have hf' : fewV T L = true ∧ s.length ≤ 12 ∧ p.length ≤ 12 := by
      rw [Bool.or_eq_true, Bool.or_eq_true, not_or, not_or] at hf
      obtain ⟨⟨h1, h2⟩, h3⟩ := hf
      rw [decide_eq_true_eq] at h2 h3
      exact ⟨by simpa using h1, by omega, by omega⟩
    obtain ⟨hfew, hs12, hp12⟩ := hf'
    obtain ⟨hT10, hL6, hL⟩ := few_of hfew
    have h8 := few_8 hfew
    simp only [p21 a b T L s (by omega) (by omega) hL (by omega), p22 a b T L p law k d most (by omega) (by omega), p61 a b T L law2 (by omega), p59, Option.isSome_some, Option.getD_some, implies_true, if_true]
    by_cases hg : (((((((((!(fewV T L)) || (decide ((s.length : Int) > 12))) || (decide ((p.length : Int) > 12))) || (stErr a b T L s != 0)) || (taskErrV a L p law k d most != 0)) || (decide (most > 20))) || (codeIf (inR law2 0 ((L.length : Int) - 1)) 6 != 0)) || (!(inR cn 0 10))) || (!(inR w 0 1000))) = true
    · rw [if_pos hg]
    · rw [if_neg hg]
      simp only [Bool.or_eq_true, not_or, bne_iff_ne, ne_eq, Decidable.not_not, decide_eq_true_eq, Bool.not_eq_true'] at hg
      obtain ⟨⟨⟨⟨⟨⟨_, g1⟩, g2⟩, g3⟩, g4⟩, g5⟩, g6⟩ := hg
      have H := allOk_of g1
      obtain ⟨td, tk, tdp, tm⟩ := task_ok g2
      have hlaw2 := codeIf0 g4 (by decide)
      rw [inR_iff] at hlaw2
      have hcn : 0 ≤ cn ∧ cn ≤ 10 := inR_iff.1 (by simpa using g5)
      have hw : 0 ≤ w ∧ w ≤ 1000 := inR_iff.1 (by simpa using g6)
      have hcells := H.ok.cells
      have hsl := H.len
      obtain ⟨bd1, bd2, bd3⟩ := H.ok.bd
      have i1 := bd64 bd1
      have ja : In64 a := i1.1
      have jb : In64 b := i1.2
      have iT : ∀ q ∈ T, In2 q := fun q hq => bd64 (bd2 q hq)
      have iL : ∀ l ∈ L, l.length ≤ 10 ∧ ∀ q ∈ l, In2 q := fun l hl => ⟨by have := h8 l hl; omega, fun q hq => bd64 (bd3 l hl q hq)⟩
      have hfl := fmt_len ja jb iT hT10 iL
      obtain ⟨s1, s2⟩ := round H.set0 (by omega)
      rw [p18 a b T L (by omega) (by omega) hL, Option.bind_some]
      simp only
      rw [p6 a b T L ja jb iT hT10 hL6 iL, Option.bind_some, t8 _ s1, Option.bind_some, s2]
      simp only
      rw [p11 a b T L (by omega) (by omega) (fun x hx => by have := hL x hx; omega), if_pos (by intro _; rfl), if_neg (by simp), p19 s (by omega), Option.bind_some, t18 p law k d most (by omega), Option.bind_some]
      simp only
      rw [p17 a b T L s p law k d most (by omega) (by omega) hL (by omega) (by omega), Option.bind_some]
      have hsv : shortV2 a b T L s p law k d most = shortS b T (L.getD law.toNat default) p k d most 1000 s 0 := by unfold shortV2; rw [if_pos g1, if_pos g2]
      have he := short_err (b := b) (T := T) (law := L.getD law.toNat default) (p := p) (k := k) (d := d) (most := most) 1000 s 0
      rw [hsv]
      generalize hv : shortS b T (L.getD law.toNat default) p k d most 1000 s 0 = v at *
      by_cases hv0 : v.2 = 0
      · rw [if_neg (by rw [hv0]; simp)]
        have hv' : shortS b T (L.getD law.toNat default) p k d most 1000 s 0 = (v.1, 0) := by rw [hv, ← hv0]
        obtain ⟨n0, n1, y, hrun, hdep⟩ := short_run 1000 s 0 hv' tm.1
        have hin : inR v.1 0 most = true := inR_iff.2 ⟨n0, n1⟩
        rw [Option.bind_some, hin, if_neg (by simp)]
        rw [show (v.1 - 0) = v.1 by omega] at hrun
        have hokh : ∀ q ∈ List.replicate v.1.toNat (p, law), driveErrV a L q.1 q.2 = 0 := fun q hq => by
          rw [List.eq_of_mem_replicate hq]; exact td
        have hokc : ∀ q ∈ List.replicate cn.toNat (List.replicate a.toNat (0 : Int), law2), (∀ x ∈ q.1, x = 0) ∧ driveErrV a L q.1 q.2 = 0 := fun q hq => by
          rw [List.eq_of_mem_replicate hq]
          exact ⟨fun x hx => List.eq_of_mem_replicate hx, drive_zero (by simp; omega) (fun x hx => by rw [List.eq_of_mem_replicate hx]; omega) ⟨hlaw2.1, by omega⟩⟩
        have A := run_all _ s y H hokh hrun
        have hyl : y.1.length = v.1.toNat := by rw [A.2.2.2.2.2, List.length_replicate]
        have hdlh : ∀ q ∈ List.replicate v.1.toNat (p, law), q.1.length < 1000000 := fun q hq => by rw [List.eq_of_mem_replicate hq]; show p.length < _; omega
        have rep : ∀ {α : Type} (x : α) (i : Nat), List.replicate (i + 1) x = List.replicate i x ++ [x] := fun x i => List.replicate_succ'
        refine iter_run v.1.toNat (b3_1 a b T L s p law k d most law2 cn w v) (fun i => (List.replicate i (p, law), (i : Int))) (some true) (by omega) (fun i hi => ?_) ?_
        · simp only [b3_1, p65 p law (by omega), bindC]
          rw [if_pos (by rw [decide_eq_true_eq]; omega), if_pos (by rw [List.length_replicate]; omega), wS i (by omega), rep]; rfl
        · simp only [b3_1]
          rw [if_neg (by rw [decide_eq_true_eq]; omega)]
          congr 1
          refine iter_run cn.toNat (b3_2 a b T L s p law k d most law2 cn w v (List.replicate v.1.toNat (p, law), ((v.1.toNat : Nat) : Int))) (fun i => (List.replicate i (List.replicate a.toNat (0 : Int), law2), (i : Int))) (some true) (by omega) (fun i hi => ?_) ?_
          · simp only [b3_2]
            rw [if_pos (by rw [decide_eq_true_eq]; omega), if_pos ⟨by omega, by omega, by omega, by omega⟩, if_pos (by rw [List.length_replicate]; omega), wS i (by omega), rep]; rfl
          · simp only [b3_2]
            rw [if_neg (by rw [decide_eq_true_eq]; omega)]
            congr 1
            have zh : drivesErrV a L (List.replicate v.1.toNat (p, law)) = 0 := drives_zero (by rw [List.length_replicate]; omega) hokh
            obtain ⟨er, eb⟩ := bal_some H zh hrun
            have tail := tail_ok (p := p) (law := law) (k := k) (d := d) (most := most) (law2 := law2) (cn := cn) (w := w) (i9 := ((cn.toNat : Nat) : Int)) H (by omega) hL (by rw [List.length_replicate]; omega) (by rw [List.length_replicate]; omega) hokh hokc tk hw hrun hdep
            rw [p18 a b T L (by omega) (by omega) hL, Option.bind_some, p19 s (by omega), Option.bind_some, p67 _ (by rw [List.length_replicate]; omega) hdlh, Option.bind_some]
            simp only
            rw [p68 a b T L s _ (by omega) (by omega) hL (by omega) (by rw [List.length_replicate]; omega) hdlh, Option.bind_some, p66 a b T L s _ (by omega) (by omega) hL (by omega) (by rw [List.length_replicate]; omega) hdlh, Option.bind_some, eb, er]
            rw [if_neg (by simp; omega)]
            by_cases hn : v.1 > 0
            · have hlast := last_getD y.1 s (by omega)
              have hi : IntKind.i64.wrap (v.1 - 1) = v.1 - 1 := IntWalk.i64_in _ ⟨by omega, by omega⟩
              have hj : (v.1 - 1).toNat = y.1.length - 1 := by omega
              rw [if_pos (by rw [decide_eq_true_eq]; exact hn), hi, if_pos ⟨by omega, by show v.1 - 1 < (y.1.length : Int); omega⟩]
              simp only [hj, hlast]
              rw [p19 (lastS s y.1) (by have := A.1.len; omega), Option.bind_some]
              exact tail
            · have : y.1 = [] := List.length_eq_zero_iff.1 (by omega)
              rw [if_neg (by rw [decide_eq_true_eq]; exact hn), b34]
              have hl : lastS s y.1 = s := by rw [this]; rfl
              rw [hl] at tail ⊢
              exact tail
      · rw [if_pos (by simpa using hv0)]
        rcases he with h | h | h
        · exact absurd h hv0
        · rw [h]; rfl
        · rw [h]; rfl
end Go.Proofs.YthldpejmofhaoaaGreatDoor

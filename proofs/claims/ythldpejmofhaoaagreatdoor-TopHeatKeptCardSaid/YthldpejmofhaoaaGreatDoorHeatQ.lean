/- Enclosed: peaks, picks, the depths of a history; what holds after each tick. -/
import Derived.Test.YthldpejmofhaoaaGreatDoorF07
import Derived.Test.YthldpejmofhaoaaGreatDoorHeatBy
import Derived.Test.YthldpejmofhaoaaGreatDoorHeatU0
set_option linter.unusedVariables false
set_option linter.unusedSimpArgs false
namespace Go.Proofs.YthldpejmofhaoaaGreatDoor
open Go.Abs

theorem zip_mono : ∀ l l' m m' : List Int, leL l l' → leL m m' → leL (zipG mx l m) (zipG mx l' m')
  | [], [], _, _, _, _ => trivial
  | [], _ :: _, _, _, h, _ => h.elim
  | _ :: _, [], _, _, h, _ => h.elim
  | x :: l, x' :: l', [], [], h, _ => h
  | x :: l, x' :: l', [], _ :: _, _, h => h.elim
  | x :: l, x' :: l', _ :: _, [], _, h => h.elim
  | x :: l, x' :: l', y :: m, y' :: m', ⟨h1, h2⟩, ⟨h3, h4⟩ => by
    refine ⟨?_, zip_mono l l' m m' h2 h4⟩
    show mx x y ≤ mx x' y'
    unfold mx
    split <;> split <;> omega
def leLL : List (List Int) → List (List Int) → Prop
  | x :: l, y :: m => leL x y ∧ leLL l m
  | [], [] => True
  | _, _ => False
theorem leLL_snoc : ∀ {l m : List (List Int)} {x y : List Int}, leLL l m → leL x y → leLL (l ++ [x]) (m ++ [y])
  | [], [], _, _, _, h => ⟨h, trivial⟩
  | [], _ :: _, _, _, h, _ => h.elim
  | _ :: _, [], _, _, h, _ => h.elim
  | _ :: l, _ :: m, _, _, ⟨h1, h2⟩, h => ⟨h1, leLL_snoc h2 h⟩
theorem peaks_mono : ∀ (st st' : List (List Int)) (s s' : List Int), leL s s' → leLL st st' → leL (peaksS s st) (peaksS s' st')
  | [], [], _, _, h, _ => h
  | [], _ :: _, _, _, _, h => h.elim
  | _ :: _, [], _, _, _, h => h.elim
  | x :: r, y :: q, s, s', h, ⟨h1, h2⟩ => peaks_mono r q _ _ (zip_mono s s' x y h h1) h2
theorem zip_mem : ∀ (l m : List Int) (z : Int), z ∈ zipG mx l m → z ∈ l ∨ z ∈ m
  | [], _, z, h => by simp [zipG] at h
  | x :: l, [], z, h => Or.inl h
  | x :: l, y :: m, z, h => by
    simp only [zipG, List.mem_cons] at h
    rcases h with h | h
    · unfold mx at h
      split at h
      · right; simp [h]
      · left; simp [h]
    · rcases zip_mem l m z h with h | h
      · left; simp [h]
      · right; simp [h]
theorem peaks_in {T : List (Int × Int)} : ∀ (st : List (List Int)) (s : List Int), inS T s → (∀ x ∈ st, inS T x) → inS T (peaksS s st)
  | [], s, h, _ => h
  | x :: r, s, h, h2 => peaks_in r _ (fun z hz => by
      rcases zip_mem s x z hz with h' | h'
      · exact h z h'
      · exact h2 x (by simp) z h') (fun y hy => h2 y (by simp [hy]))
theorem peaks_len : ∀ (st : List (List Int)) (s : List Int), (peaksS s st).length = s.length
  | [], s => rfl
  | x :: r, s => by unfold peaksS; rw [peaks_len r, zipG_len]
/-- the last state -/
def lastS : List Int → List (List Int) → List Int
  | s, [] => s
  | _, x :: r => lastS x r
theorem lastS_snoc : ∀ (st : List (List Int)) (s x : List Int), lastS s (st ++ [x]) = x
  | [], _, _ => rfl
  | y :: r, _, x => lastS_snoc r y x
theorem run_snoc {b : Int} {T : List (Int × Int)} {L : List (List (Int × Int))} : ∀ (l : List (List Int × Int)) (s : List Int) (st : List (List Int)) (n : Int) (d : List Int × Int), runS b T L s l = some (st, n) →
    (outS b T (L.getD d.2.toNat default) (lastS s st) d.1).all (inT T) = true →
    runS b T L s (l ++ [d]) = some (st ++ [outS b T (L.getD d.2.toNat default) (lastS s st) d.1], n + lossS T (L.getD d.2.toNat default) (hd (mixS b T (lastS s st))))
  | [], s, st, n, d, h, ho => by
    cases h
    show runS b T L s (d :: []) = _
    unfold runS
    rw [show lastS s [] = s from rfl] at ho ⊢
    rw [if_pos ho]
    simp [runS]
  | e :: l, s, st, n, d, h, ho => by
    show runS b T L s (e :: (l ++ [d])) = _
    unfold runS at h ⊢
    split at h
    · rename_i hc
      rw [if_pos hc]
      cases hr : runS b T L (outS b T (L.getD e.2.toNat default) s e.1) l with
      | none => rw [hr] at h; cases h
      | some y =>
        rw [hr] at h
        cases h
        rw [run_snoc l _ y.1 y.2 d hr ho]
        simp [Int.add_assoc, lastS]
    · cases h
theorem runB_cons {b : Int} {T : List (Int × Int)} {L : List (List (Int × Int))} {lo hi : List Int} {d : (List (Int × Int)) × Int × Int} {r : List ((List (Int × Int)) × Int × Int)} {z : List (List Int × List Int)} (h : runB b T L lo hi (d :: r) = some z) :
    ∃ y q, boxS b T L lo hi d = some y ∧ runB b T L y.1 y.2 r = some q ∧ z = y :: q := by
  unfold runB at h
  cases hb : boxS b T L lo hi d with
  | none => rw [hb] at h; cases h
  | some y =>
    rw [hb, Option.bind_some] at h
    cases hr : runB b T L y.1 y.2 r with
    | none => rw [hr] at h; cases h
    | some q => rw [hr] at h; cases h; exact ⟨y, q, rfl, hr, rfl⟩
def depV (T : List (Int × Int)) (k : Int) (lo hi : List Int) (o : Option (List (List Int × List Int))) : Int × Int × Int := (o.map fun z => (depS T k (peaksS lo (z.map (·.1))), depS T k (peaksS hi (z.map (·.2))), (0 : Int))).getD (0, 0, 22)
theorem p84 {a b : Int} {T : List (Int × Int)} {L : List (List (Int × Int))} {lo hi : List Int} {l : List ((List (Int × Int)) × Int × Int)} {k : Int} (hb : bxErr a b T L lo hi = 0) (hz : spansErrV a L l = 0) (hk : 200 ≤ k ∧ k ≤ 3000) (hT : T.length < 1000) (hn : L.length < 1000) (hL : ∀ x ∈ L, x.length < 1000) (hdl : ∀ d ∈ l, d.1.length < 1000000) :
    r91 a b T L lo hi l k = some (depV T k lo hi (runB b T L lo hi l)) := by
  have H := boxOk_of hb
  have h1 := H.lo.len
  have h2 := H.hi.len
  have h3 := H.lo.ok.cells
  have h200 := (spans_ok hz).1
  have hkr : inR k 200 3000 = true := inR_iff.2 hk
  unfold r91 r181
  rw [p115 a b T L lo hi hT hn hL (by omega) (by omega), Option.bind_some, openBx_ok hb, if_pos (by rfl)]
  simp only
  rw [p118 a b T L T L l hn (by omega) hdl, Option.bind_some, p93, Option.bind_some, p91 _ (by simp), Option.bind_some, firstV2, hz, hkr, Option.bind_some]
  simp only
  rw [if_neg (by decide), p119 H hz, Option.bind_some]
  cases hr : runB b T L lo hi l with
  | none => rfl
  | some z =>
    have hzl := runB_len l lo hi z hr
    rw [show depV T k lo hi (some z) = (depS T k (peaksS lo (z.map (·.1))), depS T k (peaksS hi (z.map (·.2))), 0) from rfl, show bxF (some z) [] = (z, 0) from rfl, if_neg (show ¬ (((z, (0 : Int)).2 != 0) = true) by simp)]
    have hm : ∀ (f : List Int × List Int → List Int) i, i < z.length → (z.map f).take (i + 1) = (z.map f).take i ++ [f (z.getD i default)] := fun f i hi => by
      rw [take_ext _ i (by simpa using hi)]
      congr 2
      simp [List.getD_eq_getElem?_getD, hi]
    have p1 : ∀ x ∈ z.map (·.1), x.length = lo.length := fun x hx => by
      obtain ⟨y, hy, rfl⟩ := List.mem_map.1 hx; exact (hzl.2 y hy).1
    have p2 : ∀ x ∈ z.map (·.2), x.length = hi.length := fun x hx => by
      obtain ⟨y, hy, rfl⟩ := List.mem_map.1 hx; exact (hzl.2 y hy).2
    refine iter_run z.length (b91_1 lo hi k (a, b, T, L, T, L, firstE 0 (codeIf true 2)) (z, 0)) (fun i => ((z.map (·.1)).take i, (z.map (·.2)).take i, (i : Int))) _ (by omega) (fun i hi' => ?_) ?_
    · have l1 : ((z.map (·.1)).take i).length = i := by simp; omega
      have l2 : ((z.map (·.2)).take i).length = i := by simp; omega
      simp only [b91_1, ltN hi', if_true, if_pos (rgN hi'), Int.toNat_natCast, wS i (by omega)]
      rw [if_pos ⟨by omega, by omega⟩, if_pos ⟨by omega, by omega⟩, hm (·.1) i hi', hm (·.2) i hi']
      rfl
    · simp only [b91_1]
      rw [if_neg (by simp), List.take_of_length_le (by simp), List.take_of_length_le (by simp), p134 lo _ (by omega) (by simp; omega) p1, Option.bind_some, p95 H.lo.ok _ hk (by rw [peaks_len]; omega), Option.bind_some, p134 hi _ (by omega) (by simp; omega) p2, Option.bind_some, p95 H.lo.ok _ hk (by rw [peaks_len]; omega), Option.bind_some]
theorem drives_zero {a : Int} {L : List (List (Int × Int))} {l : List (List Int × Int)} (h : l.length ≤ 200) (h2 : ∀ d ∈ l, driveErrV a L d.1 d.2 = 0) : drivesErrV a L l = 0 := by
  unfold drivesErrV
  rw [if_neg (by omega)]
  clear h
  induction l with
  | nil => rfl
  | cons x r ih =>
    unfold drivesE
    rw [if_pos (h2 x (by simp))]
    exact ih fun d hd => h2 d (by simp [hd])
/-- after t ticks -/
structure EncI (a b : Int) (T : List (Int × Int)) (L : List (List (Int × Int))) (sp : List ((List (Int × Int)) × Int × Int)) (z : List (List Int × List Int)) (begin : List Int) (t : Nat) (nn : Int) (l : List (List Int × Int)) (now bl bh : List Int) (st : List (List Int)) (n : Int) : Prop where
  nr : 0 ≤ nn ∧ nn ≤ 12 + 12 * t
  run : runS b T L begin l = some (st, n)
  last : lastS begin st = now
  len : l.length = t
  drv : ∀ d ∈ l, driveErrV a L d.1 d.2 = 0
  box : BoxOk a b T L bl bh
  lo : leL bl now
  hi : leL now bh
  rem : runB b T L bl bh (sp.drop t) = some (z.drop t)
  los : leLL ((z.take t).map (·.1)) st
  his : leLL st ((z.take t).map (·.2))
  all : AllOk a b T L now
theorem in_between {a b : Int} {T : List (Int × Int)} {L : List (List (Int × Int))} (ok : SetOk a b T L) {l u v : List Int} (h1 : leL l u) (h2 : leL u v) (hl : inS T l) (hv : inS T v) : inS T u := by
  intro x hx
  obtain ⟨i, hi, rfl⟩ := mem_getD hx
  obtain ⟨e1, f1⟩ := leL_get h1
  obtain ⟨e2, f2⟩ := leL_get h2
  have g1 := f1 i (by omega)
  have g2 := f2 i hi
  have k1 := hl _ (getD_mem (show i < l.length by omega))
  have k2 := hv _ (getD_mem (show i < v.length by omega))
  rw [inT_iff ok] at k1 k2 ⊢
  omega
end Go.Proofs.YthldpejmofhaoaaGreatDoor

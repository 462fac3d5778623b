/- HeatKept as a plain law. -/
import Derived.Test.YtcbiiijnaeibhaaHeatU0
import Derived.Test.YtcbiiijnaeibhaaF20
set_option linter.unusedVariables false
set_option linter.unusedSimpArgs false
namespace Go.Proofs.Ytcbiiijnaeibhaa
open Go.Abs

theorem sumW_eq (l : List Int) : ∀ acc : Int, (∀ x ∈ l, 0 ≤ x ∧ x ≤ 10000000) → 0 ≤ acc → acc + 10000000 * (l.length : Int) ≤ 1000000000000 → sumW acc l = acc + sumL l := by
  induction l with
  | nil => intro acc _ _ _; simp only [sumW, sumL]; omega
  | cons x r ih =>
    intro acc h h0 h1
    have hx := h x (by simp)
    have e : ((x :: r).length : Int) = r.length + 1 := by simp
    rw [e] at h1
    unfold sumW sumL
    rw [IntWalk.i64_in (acc + x) ⟨by omega, by omega⟩, ih (acc + x) (fun y hy => h y (by simp [hy])) (by omega) (by omega)]
    omega
theorem inW_cons (acc : Int) (d : List Int × Int) (r : List (List Int × Int)) : inW acc (d :: r) = inW (IntKind.i64.wrap (acc + sumW 0 d.1)) r := rfl
theorem sumL_rng {M : Int} : ∀ (l : List Int), (∀ x ∈ l, 0 ≤ x ∧ x ≤ M) → 0 ≤ sumL l ∧ sumL l ≤ M * l.length
  | [], _ => by simp [sumL]
  | x :: r, h => by
    have hx := h x (by simp)
    have := sumL_rng r (fun y hy => h y (by simp [hy]))
    have e : M * ((x :: r).length : Int) = M * r.length + M := by rw [List.length_cons, Int.natCast_add, Int.mul_add]; simp
    rw [e]; unfold sumL; omega
theorem sumL_zero : ∀ (l : List Int), (∀ x ∈ l, 0 ≤ x) → sumL l = 0 → ∀ x ∈ l, x = 0
  | [], _, _, x, hx => by simp at hx
  | y :: r, h, hs, x, hx => by
    have hy := h y (by simp)
    have hr : 0 ≤ sumL r := by
      have : ∀ l : List Int, (∀ x ∈ l, 0 ≤ x) → 0 ≤ sumL l := by
        intro l
        induction l with
        | nil => intro _; simp [sumL]
        | cons z q ih => intro hq; have := ih (fun w hw => hq w (by simp [hw])); have := hq z (by simp); unfold sumL; omega
      exact this r (fun w hw => h w (by simp [hw]))
    unfold sumL at hs
    rcases List.mem_cons.1 hx with rfl | hx
    · omega
    · exact sumL_zero r (fun w hw => h w (by simp [hw])) (by omega) x hx
theorem addL_zero : ∀ (l p : List Int), (∀ x ∈ p, x = 0) → addL l p = l
  | [], _, _ => rfl
  | x :: l, [], _ => rfl
  | x :: l, y :: p, h => by
    have := h y (by simp)
    unfold addL
    rw [this, addL_zero l p (fun w hw => h w (by simp [hw])), Int.add_zero]
theorem subH_zero : ∀ l : List Int, subH 0 l = l
  | [] => rfl
  | x :: r => by simp [subH]
theorem min_max : ∀ (l : List Int), l ≠ [] → ∃ u v, u ∈ l ∧ v ∈ l ∧ ∀ x ∈ l, u ≤ x ∧ x ≤ v
  | [], h => absurd rfl h
  | [x], _ => ⟨x, x, by simp, by simp, by simp⟩
  | x :: y :: r, _ => by
    obtain ⟨u, v, h1, h2, h3⟩ := min_max (y :: r) (by simp)
    refine ⟨if x ≤ u then x else u, if v ≤ x then x else v, ?_, ?_, fun z hz => ?_⟩
    · split
      · simp
      · exact List.mem_cons_of_mem _ h1
    · split
      · simp
      · exact List.mem_cons_of_mem _ h2
    · rcases List.mem_cons.1 hz with rfl | hz
      · constructor <;> split <;> omega
      · have := h3 z hz
        constructor <;> split <;> omega
/-- laws that lose nothing -/
theorem p80 (l : List (Int × Int)) (hl : l.length < 1000000) : r80 l = some (l.all fun p => decide (p.2 = 0)) := by
  unfold r80
  refine iter_suf (τ := Unit) l (b80_1 l) (fun i _ => (i : Int)) (fun r _ => some (r.all fun p => decide (p.2 = 0))) (fun _ _ => True) (by omega) (fun i t r hi _ _ => ?_) (fun t _ => by simp [b80_1]) () trivial
  simp only [b80_1, ltN hi, if_true, if_pos (rgN hi), Int.toNat_natCast, wS i (by omega), List.all_cons]
  by_cases hc : (l.getD i default).2 = 0
  · left
    rw [if_neg (by simpa using hc), decide_eq_true hc]
    exact ⟨(), rfl, trivial, by rw [Bool.true_and]⟩
  · right
    rw [if_pos (by simpa using hc), decide_eq_false hc, Bool.false_and]
theorem pl_zero : ∀ (l : List (Int × Int)) (x : Rat), (∀ p ∈ l, p.2 = 0) → pl l x = 0
  | [], _, _ => rfl
  | [p], _, h => by unfold pl; rw [h p (by simp)]; rfl
  | p :: q :: r, x, h => by
    have h1 := h p (by simp)
    have h2 := h q (by simp)
    have z : ((0 : Int) : Rat) = 0 := rfl
    unfold pl
    rw [h1, h2, z]
    split
    · rfl
    · split
      · grind
      · exact pl_zero (q :: r) x (fun w hw => h w (by simp [hw]))
theorem loss_zero {T law : List (Int × Int)} {e : Int} (h : ∀ p ∈ law, p.2 = 0) : lossS T law e = 0 := by
  unfold lossS
  rw [pl_zero law _ h]; exact Rat.floor_intCast 0
/-- between the smallest and the greatest -/
theorem p81_in (l m : List Int) (i : Nat) (hi : i < l.length) (hm : m.length < 1000000) (s : Int) (hs : s = (i : Int)) (h1 : ∃ y ∈ m, y ≤ l.getD i default) (h2 : ∃ y ∈ m, l.getD i default ≤ y) (hi2 : i < 1000000) :
    iterC (b81_2 l m s) 1000000000 (false, false, 0) = some (.next ((i : Int) + 1)) := by
  subst hs
  have hh := iter_suf (fuel := 1000000000) (τ := Bool × Bool) m (b81_2 l m (i : Int)) (fun j t => (t.1, t.2, (j : Int))) (fun r t => some (if (!(t.1 || r.any fun y => decide (y ≤ l.getD i default)) || !(t.2 || r.any fun y => decide (l.getD i default ≤ y))) = true then .out (some false) else .next ((i : Int) + 1))) (fun _ _ => True) (by omega) (fun j t r hj _ _ => by
      left
      refine ⟨(t.1 || decide (m.getD j default ≤ l.getD i default), t.2 || decide (m.getD j default ≥ l.getD i default)), ?_, trivial, ?_⟩
      · simp only [b81_2, ltN hj, if_true, Int.toNat_natCast, wS j (by omega)]
        rw [if_pos (fun _ => rgN hj), if_pos (fun _ => rgN hi), if_pos (fun _ => rgN hj), if_pos (fun _ => rgN hi)]
        rfl
      · simp only [List.any_cons, Bool.or_assoc, ge_iff_le]
        rfl) (fun t _ => by
      simp only [b81_2]
      rw [if_neg (by simp), wS i (by omega)]
      simp) (false, false) trivial
  rw [show ((0 : Nat) : Int) = 0 from rfl] at hh
  rw [hh]
  obtain ⟨y, y1, y2⟩ := h1
  obtain ⟨z, z1, z2⟩ := h2
  have e1 : (m.any fun y => decide (y ≤ l.getD i default)) = true := List.any_eq_true.2 ⟨y, y1, decide_eq_true y2⟩
  have e2 : (m.any fun y => decide (l.getD i default ≤ y)) = true := List.any_eq_true.2 ⟨z, z1, decide_eq_true z2⟩
  rw [e1, e2]; rfl
theorem p81 (l m : List Int) (hl : l.length < 1000000) (hm : m.length < 1000000) (h : ∀ x ∈ l, (∃ y ∈ m, y ≤ x) ∧ ∃ y ∈ m, x ≤ y) : r81 l m = some true := by
  unfold r81
  refine iter_run l.length (b81_1 l m) (fun i => (i : Int)) _ (by omega) (fun i hi => ?_) (by simp [b81_1])
  have hx := h _ (getD_mem hi)
  simp only [b81_1, ltN hi, if_true]
  rw [p81_in l m i hi hm _ rfl hx.1 hx.2 (by omega)]
  rfl
structure KeptI (a b : Int) (T : List (Int × Int)) (L : List (List (Int × Int))) (s : List Int) (l : List (List Int × Int)) (i : Nat) (inn : Int) (now : List Int) (pre : List (List Int)) (n : Int) : Prop where
  all : AllOk a b T L now
  run : runS b T L s l = (runS b T L now (l.drop i)).map fun y => (pre ++ y.1, n + y.2)
  len : pre.length = i
  rng : 0 ≤ n ∧ n ≤ 1000 * i
  irng : 0 ≤ inn ∧ inn ≤ 200000 * i
  bal : sumL s + inn = n + sumL now
  inw : inW inn (l.drop i) = inW 0 l
  last : (i = 0 → now = s) ∧ (0 < i → pre.getD (i - 1) default = now)
theorem AllOk.sum {a b : Int} {T : List (Int × Int)} {L : List (List (Int × Int))} {s : List Int} (h : AllOk a b T L s) : sumW 0 s = sumL s ∧ 0 ≤ sumL s ∧ sumL s ≤ 12000000 := by
  have h1 := h.len
  have h2 := h.ok.cells
  have h3 : ∀ x ∈ s, 0 ≤ x ∧ x ≤ 1000000 := fun x hx => inT_rng h.ok (h.ins x hx)
  have h4 := sumL_rng s h3
  refine ⟨?_, h4.1, by omega⟩
  rw [sumW_eq s 0 (fun x hx => by have := h3 x hx; omega) (by omega) (by omega), Int.zero_add]
theorem drive_sum {a b : Int} {T : List (Int × Int)} {L : List (List (Int × Int))} (ok : SetOk a b T L) {p : List Int} {law : Int} (h : driveErrV a L p law = 0) : sumW 0 p = sumL p ∧ 0 ≤ sumL p ∧ sumL p ≤ 120000 := by
  have D := drive_ok h
  have h2 := ok.cells
  have h4 := sumL_rng p D.2.1
  refine ⟨?_, h4.1, by omega⟩
  rw [sumW_eq p 0 (fun x hx => by have := D.2.1 x hx; omega) (by omega) (by omega), Int.zero_add]
theorem kept (a b : Int) (T : List (Int × Int)) (L : List (List (Int × Int))) (s : List Int) (l : List (List Int × Int)) (hlen : l.length ≤ 9223372036854775807) : r12 a b T L s l = some true := by
  unfold r12
  rw [awake, Option.bind_some, if_neg (by simp), p15, Option.bind_some, p16, gS, Option.getD_some, p63 l hlen, gS, Option.getD_some]
  by_cases hf : fewV T L = true
  · obtain ⟨h1, h2, h3⟩ := few_of hf
    by_cases hs : s.length ≤ 14
    · by_cases hfd : fewD l = true
      · obtain ⟨hl, hdd⟩ := fewD_of hfd
        have hdl : ∀ d ∈ l, d.1.length < 1000000 := fun d hd' => by have := hdd d hd'; omega
        rw [p21 a b T L s (by omega) (by omega) h3 (by omega), gS, Option.getD_some, p72 a b T L l (by omega) (by omega) hdl, gS, Option.getD_some]
        split
        · rfl
        · rename_i hc
          simp only [Bool.or_eq_true, not_or, Bool.not_eq_true, Bool.not_eq_false', bne_eq_false_iff_eq] at hc
          obtain ⟨⟨_, hst⟩, hz⟩ := hc
          have H := allOk_of hst
          obtain ⟨h200, hok⟩ := drivesE_of hz
          have hsl := H.len
          have hcl := H.ok.cells
          rw [p18 a b T L (by omega) (by omega) h3, Option.bind_some, p19 s (by omega), Option.bind_some, p67 l (by omega) hdl, Option.bind_some]
          simp only
          rw [p68 a b T L s l (by omega) (by omega) h3 (by omega) (by omega) hdl, Option.bind_some, p66 a b T L s l (by omega) (by omega) h3 (by omega) (by omega) hdl, Option.bind_some]
          have hrv : runV a b T L s l = runF (runS b T L s l) [] 0 := by unfold runV; rw [if_pos hst, if_pos hz]
          rw [hrv]
          have hE : (balF s l (runF (runS b T L s l) [] 0)).2.2.2.2 = (runF (runS b T L s l) [] 0).2.2 := by
            unfold balF; split
            · rename_i h0; exact h0.symm
            · rfl
          have hE2 : (runF (runS b T L s l) [] 0).2.2 = 0 ∨ (runF (runS b T L s l) [] 0).2.2 = 22 := by
            cases runS b T L s l with
            | none => exact Or.inr rfl
            | some y => exact Or.inl rfl
          rw [if_neg (by rw [hE]; rcases hE2 with h | h <;> rw [h] <;> simp)]
          refine iter_inv (b12_1 a b T L s l (balF s l (runF (runS b T L s l) [] 0)) ((runF (runS b T L s l) [] 0).1, (runF (runS b T L s l) [] 0).2.2)) (fun i st => st.2.1 = (i : Int) ∧ ∃ pre n, KeptI a b T L s l i st.1 st.2.2 pre n) (fun r => r = some true) l.length ?_ ?_ (0, 0, s) ⟨rfl, [], 0, ⟨H, by simp, rfl, by simp, by simp, by simp, by simp, ⟨fun _ => rfl, fun h => by omega⟩⟩⟩ 1000000000 (by omega)
          · rintro i ⟨inn, i', now⟩ hi ⟨hi', pre, n, K⟩
            simp only at hi' K
            subst hi'
            have hd1 := hok _ (getD_mem hi)
            have hnl := K.all.len
            have hdrop : l.drop i = l.getD i default :: l.drop (i + 1) := by
              rw [List.drop_eq_getElem_cons hi]; simp [List.getD_eq_getElem?_getD, hi]
            have hK := K.run
            rw [hdrop] at hK
            have hp1 := hdl _ (getD_mem hi)
            unfold b12_1
            simp only [Int.toNat_natCast]
            rw [if_pos (ltN hi), p18 a b T L (by omega) (by omega) h3]
            simp only [bindC]
            rw [if_pos (rgN hi), p65 _ _ (by omega)]
            simp only
            rw [p64 a b T L now _ _ (by omega) (by omega) h3 (by omega) (by omega), K.all.stepped hd1]
            simp only
            unfold stepV
            by_cases hc : (outS b T (L.getD (l.getD i default).2.toNat default) now (l.getD i default).1).all (inT T) = true
            · rw [if_pos hc]
              have hrun : runS b T L s l = (runS b T L (outS b T (L.getD (l.getD i default).2.toNat default) now (l.getD i default).1) (l.drop (i + 1))).map fun y => ((pre ++ [outS b T (L.getD (l.getD i default).2.toNat default) now (l.getD i default).1]) ++ y.1, (n + lossS T (L.getD (l.getD i default).2.toNat default) (hd (mixS b T now))) + y.2) := by
                rw [hK]
                conv => lhs; unfold runS
                rw [if_pos hc]
                cases runS b T L (outS b T (L.getD (l.getD i default).2.toNat default) now (l.getD i default).1) (l.drop (i + 1)) with
                | none => rfl
                | some y => simp [Int.add_assoc]
              have Hn := K.all.next hc
              have D := drive_ok hd1
              have hloss := loss_rng K.all.ok (hd (mixS b T now)) D.2.2
              have hsum := outS_sum b T (L.getD (l.getD i default).2.toNat default) now (l.getD i default).1 (by omega) (by intro h; rw [h] at hnl; simp at hnl; omega)
              have s1 := K.all.sum
              have s2 := Hn.sum
              have s3 := drive_sum K.all.ok hd1
              have hquiet : ((L.getD (l.getD i default).2.toNat default).all fun p => decide (p.2 = 0)) = true → lossS T (L.getD (l.getD i default).2.toNat default) (hd (mixS b T now)) = 0 := fun hq => by
                rw [List.all_eq_true] at hq
                exact loss_zero fun p hp => of_decide_eq_true (hq p hp)
              have hins : sumL (l.getD i default).1 = 0 → lossS T (L.getD (l.getD i default).2.toNat default) (hd (mixS b T now)) = 0 → ∀ x ∈ outS b T (L.getD (l.getD i default).2.toNat default) now (l.getD i default).1, (∃ y ∈ now, y ≤ x) ∧ ∃ y ∈ now, x ≤ y := fun hp hq x hx => by
                unfold outS at hx
                rw [hq, subH_zero, addL_zero _ _ (sumL_zero _ (fun x hx => (D.2.1 x hx).1) hp)] at hx
                obtain ⟨u, v, hu, hv, huv⟩ := min_max now (by intro h; rw [h] at hnl; simp at hnl; omega)
                have := mixS_in K.all.ok.mix K.all.ok.asc now huv x hx
                exact ⟨⟨u, hu, this.1⟩, ⟨v, hv, this.2⟩⟩
              have hol := Hn.len
              have lawl := (K.all.ok.laws (l.getD i default).2.toNat (by omega)).len
              generalize outS b T (L.getD (l.getD i default).2.toNat default) now (l.getD i default).1 = out at *
              generalize lossS T (L.getD (l.getD i default).2.toNat default) (hd (mixS b T now)) = loss at *
              simp only
              rw [if_neg (by decide)]
              have hrunE : (runF (runS b T L s l) [] 0).2.2 = 0 → i < (runF (runS b T L s l) [] 0).1.length ∧ (runF (runS b T L s l) [] 0).1.getD i default = out := fun h0 => by
                cases hr : runS b T L out (l.drop (i + 1)) with
                | none => rw [hrun, hr] at h0; simp [runF] at h0
                | some y =>
                  rw [hrun, hr]
                  simp only [runF, Option.map_some, Option.getD_some, List.nil_append]
                  have := K.len
                  constructor
                  · simp; omega
                  · rw [← this]; simp [List.getD_eq_getElem?_getD]
              rw [hE]
              have hr34 := p34 out (by omega)
              generalize hRR : runF (runS b T L s l) [] 0 = R at *
              have hgo : ∀ z1 z2 : Ctl (Int × Int × List Int) Bool, (if (((!((((0 : Int) != 0) || ((out.length : Int) != a)))) && (R.2.2 == 0)) && (!(decide ((i : Int) ≥ (R.1.length : Int))))) = true → 0 ≤ (i : Int) ∧ (i : Int) < (R.1.length : Int) then
                  (if (((!((((0 : Int) != 0) || ((out.length : Int) != a)))) && (R.2.2 == 0)) && (!(decide ((i : Int) ≥ (R.1.length : Int))))) = true → (r34 (R.1.getD i default) out).isSome = true then
                    (if ((((0 : Int) != 0) || ((out.length : Int) != a)) || ((R.2.2 == 0) && ((decide ((i : Int) ≥ (R.1.length : Int))) || (!((r34 (R.1.getD i default) out).getD default))))) = true then (.out (some false)) else z1) else .out none) else .out none) = z1 := by
                intro z1 z2
                by_cases h0 : R.2.2 = 0
                · obtain ⟨e1, e2⟩ := hrunE h0
                  rw [if_pos (fun _ => rgN e1), e2, hr34, gS, Option.getD_some, if_neg (by
                    have : decide ((i : Int) ≥ (R.1.length : Int)) = false := decide_eq_false (by omega)
                    rw [this]; simp [hol])]
                · have e0 : (R.2.2 == 0) = false := by simpa using h0
                  rw [if_pos (by rw [e0]; simp), if_pos (by rw [e0]; simp), if_neg (by rw [e0]; simp [hol])]
              rw [hgo _ (.out none), if_pos (rgN hi), p79 _ (by omega)]
              simp only
              rw [p79 now (by omega)]
              simp only
              rw [p79 out (by omega)]
              simp only
              rw [s1.1, s2.1, s3.1, IntWalk.i64_in (sumL now + sumL (l.getD i default).1) ⟨by omega, by omega⟩]
              have hlo : sumL now + sumL (l.getD i default).1 - sumL out = loss := by omega
              rw [hlo, IntWalk.i64_in loss ⟨by omega, by omega⟩, p59]
              simp only
              have hin : inR loss 0 1000 = true := inR_iff.2 hloss
              rw [hin, if_pos (fun _ => rgN hi), if_pos (fun _ => D.2.2), p80 _ (by omega), gS, Option.getD_some]
              rw [if_neg (by
                intro h
                simp only [Bool.not_true, Bool.false_or, Bool.and_eq_true] at h
                have := hquiet h.1
                rw [this] at h; simp at h)]
              have hr81 : ((sumL (l.getD i default).1 == 0) && (loss == 0)) = true → r81 out now = some true := fun h => by
                rw [Bool.and_eq_true, beq_iff_eq, beq_iff_eq] at h
                exact p81 out now (by omega) (by omega) (hins h.1 h.2)
              have hfin : ∀ z1 : Ctl (Int × Int × List Int) Bool, (if ((sumL (l.getD i default).1 == 0) && (loss == 0)) = true → (r81 out now).isSome = true then
                  (if (((sumL (l.getD i default).1 == 0) && (loss == 0)) && (!((r81 out now).getD default))) = true then .out (some false) else z1) else .out none) = z1 := by
                intro z1
                by_cases hb : ((sumL (l.getD i default).1 == 0) && (loss == 0)) = true
                · rw [hr81 hb, gS, Option.getD_some, hb, if_neg (by decide)]
                · rw [if_pos (fun h => absurd h hb), if_neg (by rw [Bool.and_eq_true]; exact fun h => hb h.1)]
              rw [hfin, p19 out (by omega)]
              simp only
              have ir := K.irng
              rw [IntWalk.i64_in (inn + sumL (l.getD i default).1) ⟨by omega, by omega⟩, wS i (by omega)]
              left
              refine ⟨_, rfl, by simp, pre ++ [out], n + loss, ⟨Hn, hrun, by simp [K.len], ?_, ?_, ?_, ?_, ?_⟩⟩
              · have := K.rng; omega
              · simp only; omega
              · have := K.bal; simp only; omega
              · have := K.inw
                rw [hdrop, inW_cons, s3.1, IntWalk.i64_in (inn + sumL (l.getD i default).1) ⟨by omega, by omega⟩] at this
                exact this
              · refine ⟨fun h => by omega, fun _ => ?_⟩
                have := K.len
                rw [Nat.add_sub_cancel, ← this]; simp [List.getD_eq_getElem?_getD]
            · rw [if_neg hc]
              right
              simp only
              rw [if_pos (by decide)]
              have hn : runS b T L s l = none := by rw [hK, run_none hc]; rfl
              refine ⟨_, rfl, ?_⟩
              rw [hE, hn]; rfl
          · rintro ⟨inn, i', now⟩ ⟨hi', pre, n, K⟩
            simp only at hi' K
            subst hi'
            have hK := K.run
            rw [List.drop_length] at hK
            have hr : runS b T L s l = some (pre, n) := by rw [hK]; simp [runS]
            have hinw := K.inw
            rw [List.drop_length] at hinw
            have hinw' : inW 0 l = inn := hinw.symm
            have s0 := H.sum
            have s1 := K.all.sum
            have hnl := K.all.len
            have hpl := K.len
            have hbal := K.bal
            have kr := K.rng
            have ir := K.irng
            have hlast : (if pre.length = 0 then sumW 0 s else sumW 0 (pre.getD (pre.length - 1) default)) = sumL now := by
              by_cases h0 : pre.length = 0
              · rw [if_pos h0, K.last.1 (by omega), s0.1]
              · rw [if_neg h0, hpl, K.last.2 (by omega), s1.1]
            unfold b12_1
            simp only
            rw [if_neg (by simp), hr]
            simp only [runF, Option.map_some, Option.getD_some, List.nil_append, Int.zero_add, balF, if_true, balV]
            rw [hinw', hlast, p79 s (by omega), gS, Option.getD_some, p79 now (by omega), gS, Option.getD_some, s0.1, s1.1, IntWalk.i64_in ((l.length : Int) * 1000) ⟨by omega, by omega⟩, p59, gS, Option.getD_some, IntWalk.i64_in (sumL s + inn) ⟨by omega, by omega⟩, IntWalk.i64_in (n + sumL now) ⟨by omega, by omega⟩]
            have hin : inR n 0 ((l.length : Int) * 1000) = true := inR_iff.2 ⟨kr.1, by omega⟩
            rw [hin, hbal, hpl]
            exact ⟨_, rfl, by simp⟩
      · have e : fewD l = false := by simpa using hfd
        simp [e]
    · have e : decide ((s.length : Int) ≤ 14) = false := by rw [decide_eq_false_iff_not]; omega
      simp [e]
  · have e : fewV T L = false := by simpa using hf
    simp [e]
end Go.Proofs.Ytcbiiijnaeibhaa

/- HeatEnclosed as a plain law. -/
import Derived.Test.YtcbiiijnaeibhaaHeatQ
import Derived.Test.YtcbiiijnaeibhaaF26
set_option linter.unusedVariables false
set_option linter.unusedSimpArgs false
namespace Go.Proofs.Ytcbiiijnaeibhaa
open Go.Abs
set_option maxHeartbeats 1000000

theorem map_getD {α β : Type} [Inhabited α] [Inhabited β] (l : List α) (f : α → β) (i : Nat) (h : i < l.length) : (l.map f).getD i default = f (l.getD i default) := by
  simp [List.getD_eq_getElem?_getD, h]
theorem snoc_get {l : List Int} {v : Int} {i : Nat} (h : l.length = i) (P : Nat → Int → Prop) (hp : ∀ j, j < i → P j (l.getD j default)) (hv : P i v) : ∀ j, j < i + 1 → P j ((l ++ [v]).getD j default) := by
  intro j hj
  by_cases hji : j = i
  · subst hji; subst h
    have : (l ++ [v]).getD l.length default = v := by simp [List.getD_eq_getElem?_getD]
    rw [this]; exact hv
  · have : (l ++ [v]).getD j default = l.getD j default := by
      have hlt : j < l.length := by omega
      simp [List.getD_eq_getElem?_getD, List.getElem?_append_left hlt]
    rw [this]; exact hp j (by omega)
theorem enc_step {a b : Int} {T : List (Int × Int)} {L : List (List (Int × Int))} {lo hi : List Int} {sp : List ((List (Int × Int)) × Int × Int)} {k : Int} {picks : List Int} {z : List (List Int × List Int)} (hT : T.length < 1000) (hn : L.length < 1000) (hL : ∀ x ∈ L, x.length < 1000) (hp : 0 < picks.length ∧ picks.length ≤ 100) (h200 : sp.length ≤ 200) (hok : ∀ d ∈ sp, spanErrV a L d.1 d.2.1 d.2.2 = 0) (hzl : z.length = sp.length)
    {begin : List Int} {t : Nat} (ht : t < sp.length) {nn : Int} {l : List (List Int × Int)} {now bl bh : List Int} {st : List (List Int)} {n : Int} (E : EncI a b T L sp z begin t nn l now bl bh st n) :
    ∃ nn' l' now' bl' bh' st' n', iterC (b13_3 a b T L sp k picks (z, 0) (nn, l, (t : Int), now)) 1000000000 (nn, 0, []) = some (.next (nn', l', ((t + 1 : Nat) : Int), now')) ∧ EncI a b T L sp z begin (t + 1) nn' l' now' bl' bh' st' n' := by
  have hcl := E.all.ok.cells
  have hnl := E.all.len
  have hd := hok _ (getD_mem ht)
  have S := span_ok hd
  have hsl := S.len
  have hnr := E.nr
  have hll := E.len
  obtain ⟨A, hA⟩ : ∃ A : Nat, a = (A : Int) := ⟨a.toNat, by omega⟩
  have hdrop : sp.drop t = sp.getD t default :: sp.drop (t + 1) := by
    rw [List.drop_eq_getElem_cons ht]; simp [List.getD_eq_getElem?_getD, ht]
  have hrem := E.rem
  rw [hdrop] at hrem
  obtain ⟨y, q, hy, hrun, hzq⟩ := runB_cons hrem
  have hzt : z.getD t default = y := by
    have : (z.drop t).getD 0 default = y := by rw [hzq]; rfl
    simpa [List.getD_eq_getElem?_getD] using this
  have hzt1 : z.drop (t + 1) = q := by
    have : (z.drop t).drop 1 = q := by rw [hzq]; rfl
    simpa [Nat.add_comm] using this
  have hztk : z.take (t + 1) = z.take t ++ [y] := by rw [take_ext z t (by omega), hzt]
  have hnext := E.box.next hd hy
  have hyl : y.1.length = A ∧ y.2.length = A := by
    have h1 := hnext.lo.len
    have h2 := hnext.hi.len
    omega
  refine iter_inv (b13_3 a b T L sp k picks (z, 0) (nn, l, (t : Int), now)) (fun i s3 => s3.1 = nn + (i : Int) ∧ s3.2.1 = (i : Int) ∧ s3.2.2.length = i ∧ ∀ j, j < i → ((sp.getD t default).1.getD j default).1 ≤ s3.2.2.getD j default ∧ s3.2.2.getD j default ≤ ((sp.getD t default).1.getD j default).2)
    (fun r => ∃ nn' l' now' bl' bh' st' n', r = some (.next (nn', l', ((t + 1 : Nat) : Int), now')) ∧ EncI a b T L sp z begin (t + 1) nn' l' now' bl' bh' st' n') A ?_ ?_ (nn, 0, []) ⟨by simp, rfl, rfl, fun j hj => by omega⟩ 1000000000 (by omega)
  · rintro i ⟨n1, i', p⟩ hi' ⟨h1, h2, h3, h4⟩
    simp only at h1 h2 h3 h4
    subst h1; subst h2
    left
    have hr := S.rng _ (getD_mem (show i < (sp.getD t default).1.length by omega))
    obtain ⟨v, e, hv1, hv2⟩ := p86 sp k picks (nn + (i : Int)) ((sp.getD t default).1.getD i default).1 ((sp.getD t default).1.getD i default).2 hp ⟨hr.1.1, hr.2.2, by omega⟩
    unfold b13_3
    simp only [Int.toNat_natCast]
    rw [if_pos (decide_eq_true (by omega)), if_pos (rgN ht), if_pos (rgN (show i < (sp.getD t default).1.length by omega)), e]
    simp only [bindC]
    rw [if_pos ⟨by omega, by omega⟩, IntWalk.i64_in (nn + (i : Int) + 1) ⟨by omega, by omega⟩, wS i (by omega)]
    refine ⟨_, rfl, by simp only; omega, by simp, by simp [h3], ?_⟩
    exact snoc_get h3 (fun j w => ((sp.getD t default).1.getD j default).1 ≤ w ∧ w ≤ ((sp.getD t default).1.getD j default).2) h4 ⟨hv1, hv2⟩
  · rintro ⟨n1, i', p⟩ ⟨h1, h2, h3, h4⟩
    simp only at h1 h2 h3 h4
    subst h1; subst h2
    have hpl : leL ((sp.getD t default).1.map (·.1)) p := leL_of _ _ (by rw [List.length_map]; omega) fun j hj => by
      rw [List.length_map] at hj
      rw [map_getD _ _ j hj]
      exact (h4 j (by omega)).1
    have hph : leL p ((sp.getD t default).1.map (·.2)) := leL_of _ _ (by rw [List.length_map]; omega) fun j hj => by
      rw [map_getD _ _ j (by omega)]
      exact (h4 j (by omega)).2
    have hlw := S.law
    obtain ⟨w, ew, hw1, hw2⟩ := p86 sp k picks (nn + (A : Int)) (sp.getD t default).2.1 (sp.getD t default).2.2 hp ⟨hlw.1, hlw.2.1, by omega⟩
    have hdrv : driveErrV a L p w = 0 := drive_zero (by omega) (fun x hx => by
      obtain ⟨j, hj, rfl⟩ := mem_getD hx
      have g := h4 j (by omega)
      have hr := S.rng _ (getD_mem (show j < (sp.getD t default).1.length by omega))
      omega) ⟨by omega, by omega⟩
    -- the step lies in the next box
    have hb1 : y.1 = outS b T (L.getD (sp.getD t default).2.2.toNat default) bl ((sp.getD t default).1.map (·.1)) ∧ y.2 = outS b T (L.getD (sp.getD t default).2.1.toNat default) bh ((sp.getD t default).1.map (·.2)) := by
      unfold boxS at hy
      split at hy
      · cases hy; exact ⟨rfl, rfl⟩
      · cases hy
    have hlo : leL y.1 (outS b T (L.getD w.toNat default) now p) := by
      rw [hb1.1]; exact outS_leL E.all.ok ⟨by omega, hlw.2.2⟩ ⟨by omega, by omega⟩ hw2 E.lo hpl
    have hhi : leL (outS b T (L.getD w.toNat default) now p) y.2 := by
      rw [hb1.2]; exact outS_leL E.all.ok ⟨by omega, by omega⟩ ⟨hlw.1, by omega⟩ hw1 E.hi hph
    have hin := in_between E.all.ok hlo hhi hnext.lo.ins hnext.hi.ins
    have hall : (outS b T (L.getD w.toNat default) now p).all (inT T) = true := by rw [List.all_eq_true]; exact hin
    have Hn := E.all.next hall
    have hol := Hn.len
    have hrs := run_snoc l begin st n (p, w) E.run (by rw [E.last]; exact hall)
    rw [E.last] at hrs
    simp only at hrs
    unfold b13_3
    simp only [Int.toNat_natCast]
    rw [if_neg (by rw [decide_eq_true_eq]; omega), if_pos (rgN ht), ew]
    simp only [bindC]
    rw [if_pos ⟨by omega, by omega⟩, p18 a b T L hT hn hL]
    simp only
    rw [p65 p w (by omega)]
    simp only
    rw [p64 a b T L now p w hT hn hL (by omega) (by omega), E.all.stepped hdrv]
    unfold stepV
    rw [if_pos hall]
    simp only
    generalize outS b T (L.getD w.toNat default) now p = out at *
    have hlo'' : leL (z.getD t default).1 out := by rw [hzt]; exact hlo
    have hhi'' : leL out (z.getD t default).2 := by rw [hzt]; exact hhi
    have hlo' := (leL_get hlo'')
    have hhi' := (leL_get hhi'')
    rw [if_pos (fun _ => rgN (show t < z.length by omega)), if_pos (fun _ => rgN (show t < z.length by omega)), if_neg (by
      have e1 : decide ((t : Int) ≥ (z.length : Int)) = false := decide_eq_false (by omega)
      have e2 : ((out.length : Int) != a) = false := by simpa using hol
      have e3 : (((z.getD t default).1.length : Int) != a) = false := by rw [bne_eq_false_iff_eq]; omega
      have e4 : (((z.getD t default).2.length : Int) != a) = false := by rw [bne_eq_false_iff_eq]; omega
      rw [e1, e2, e3, e4]; decide)]
    have h4l := iter_run A (b13_4 a (z, 0) (nn, l, (t : Int), now) (nn + (A : Int), (A : Int), p) w (out, 0)) (fun i => (i : Int)) (some (.next (nn + (A : Int), l ++ [(p, w)], ((t + 1 : Nat) : Int), out))) (by omega) (fun i hi' => by
        have g1 := hlo'.2 i (by omega)
        have g2 := hhi'.2 i (by omega)
        have hr : inR (out.getD i default) ((z.getD t default).1.getD i default) ((z.getD t default).2.getD i default) = true := inR_iff.2 ⟨g1, g2⟩
        unfold b13_4
        simp only [Int.toNat_natCast]
        rw [if_pos (decide_eq_true (by omega)), if_pos (rgN (show i < out.length by omega)), if_pos (rgN (show t < z.length by omega)), if_pos (rgN (show i < (z.getD t default).1.length by omega)), if_pos (rgN (show t < z.length by omega)), if_pos (rgN (show i < (z.getD t default).2.length by omega)), p59, hr]
        simp only [bindC]
        rw [if_neg (by decide), wS i (by omega)]; rfl) (by
        unfold b13_4
        simp only
        rw [if_neg (by rw [decide_eq_true_eq]; omega), p19 out (by omega)]
        simp only [bindC]
        rw [wS t (by omega)]; rfl)
    rw [show ((0 : Nat) : Int) = 0 from rfl] at h4l
    rw [h4l]
    refine ⟨_, rfl, nn + (A : Int), l ++ [(p, w)], out, y.1, y.2, st ++ [out], _, rfl, ⟨?_, hrs, lastS_snoc st begin out, by simp [hll], fun d hd' => ?_, hnext, hlo, hhi, by rw [hzt1]; exact hrun, ?_, ?_, Hn⟩⟩
    · omega
    · rcases List.mem_append.1 hd' with h | h
      · exact E.drv d h
      · have : d = (p, w) := by simpa using h
        rw [this]; exact hdrv
    · rw [hztk, List.map_append]; exact leLL_snoc E.los hlo
    · rw [hztk, List.map_append]; exact leLL_snoc E.his hhi
theorem enc_loop {a b : Int} {T : List (Int × Int)} {L : List (List (Int × Int))} {lo hi : List Int} {sp : List ((List (Int × Int)) × Int × Int)} {k : Int} {picks : List Int} {z : List (List Int × List Int)} (hT : T.length < 1000) (hn : L.length < 1000) (h3 : ∀ x ∈ L, x.length < 1000) (hp : 0 < picks.length ∧ picks.length ≤ 100) (h200 : sp.length ≤ 200) (hok : ∀ d ∈ sp, spanErrV a L d.1 d.2.1 d.2.2 = 0) (hk : 200 ≤ k ∧ k ≤ 3000) (H : BoxOk a b T L lo hi) (hr : runB b T L lo hi sp = some z) (hzl : z.length = sp.length) {A : Nat} (hA : a = (A : Int)) {v8 : Int × Int × Int} (hv : v8 = (depS T k (peaksS lo (z.map (·.1))), depS T k (peaksS hi (z.map (·.2))), 0)) {now : List Int} (hlo' : leL lo now) (hhi' : leL now hi) (Hb : AllOk a b T L now) :
    iterC (b13_2 a b T L sp k picks (z, 0) v8 now) 1000000000 ((A : Int), [], 0, now) = some true := by
  have hcl := H.lo.ok.cells
  have hl1 := H.lo.len
  have hl2 := H.hi.len
  have hbl := Hb.len
  refine iter_inv (b13_2 a b T L sp k picks (z, 0) v8 now) (fun t st => st.2.2.1 = (t : Int) ∧ ∃ bl bh ss n, EncI a b T L sp z now t st.1 st.2.1 st.2.2.2 bl bh ss n) (fun r => r = some true) sp.length ?_ ?_ ((A : Int), [], 0, now) ⟨rfl, lo, hi, [], 0, ⟨by simp only; omega, rfl, rfl, rfl, by simp, H, hlo', hhi', by simpa using hr, trivial, trivial, Hb⟩⟩ 1000000000 (by omega)
  · rintro t ⟨nn, l, t', cur⟩ ht ⟨ht', bl, bh, ss, n, E⟩
    simp only at ht' E
    subst ht'
    left
    obtain ⟨nn', l', now', bl', bh', st', n', e, E'⟩ := enc_step (lo := lo) (hi := hi) (k := k) (picks := picks) (by omega) (by omega) h3 hp h200 hok hzl ht E
    unfold b13_2
    simp only
    rw [if_pos (ltN ht), e]
    exact ⟨(nn', l', ((t + 1 : Nat) : Int), now'), rfl, rfl, bl', bh', st', n', E'⟩
  · rintro ⟨nn, l, t', cur⟩ ⟨ht', bl, bh, ss, n, E⟩
    simp only at ht' E
    subst ht'
    have hll := E.len
    have hdz : drivesErrV a L l = 0 := drives_zero (by omega) E.drv
    have hdl2 : ∀ d ∈ l, d.1.length < 1000000 := fun d hd => by have := (drive_ok (E.drv d hd)).1; omega
    have hrv : runV a b T L now l = (ss, n, 0) := by
      unfold runV
      rw [if_pos Hb.stErr, if_pos hdz, E.run]
      simp [runF]
    have hlos := E.los
    have hhis := E.his
    rw [List.take_of_length_le (by omega)] at hlos hhis
    have pl1 := peaks_mono _ _ _ _ hlo' hlos
    have pl2 := peaks_mono _ _ _ _ hhi' hhis
    have hpl := peaks_len ss now
    have hss := run_len l now (ss, n) E.run
    have hpin : inS T (peaksS now ss) := peaks_in ss now Hb.ins (by
      -- each state is in the table
      have : ∀ (l : List (List Int × Int)) (s : List Int) (y : List (List Int) × Int), runS b T L s l = some y → ∀ x ∈ y.1, inS T x := by
        intro l
        induction l with
        | nil => intro s y h x hx; cases h; simp at hx
        | cons d r ih =>
          intro s y h x hx
          unfold runS at h
          split at h
          · rename_i hc
            cases hq : runS b T L (outS b T (L.getD d.2.toNat default) s d.1) r with
            | none => rw [hq] at h; cases h
            | some w =>
              rw [hq] at h; cases h
              rcases List.mem_cons.1 hx with rfl | hx
              · intro v hv; rw [List.all_eq_true] at hc; exact hc v hv
              · exact ih _ w hq x hx
          · cases h
      exact this l now (ss, n) E.run)
    have HP : AllOk a b T L (peaksS now ss) := ⟨H.lo.ok, H.lo.set0, by omega, hpin⟩
    have hkr : inR k 200 3000 = true := inR_iff.2 hk
    subst hv
    unfold b13_2
    simp only
    rw [if_neg (by simp), p18 a b T L (by omega) (by omega) h3, Option.bind_some]
    simp only
    rw [p69 a b T L now l (by omega) (by omega) h3 (by omega) (by omega) hdl2, Option.bind_some, hrv]
    refine ⟨_, rfl, ?_⟩
    rw [show peakF now (ss, n, 0) = (peaksS now ss, 0) from rfl]
    simp only
    rw [if_neg (by
      have e1 : (((peaksS now ss).length : Int) != a) = false := by simp; omega
      rw [e1]; decide), p27 a b T L _ (by have := H.lo.ok.tlen; omega) (by omega) (by omega), Option.bind_some, state_zero HP.len hpin, if_neg (by decide), p19 _ (by omega), Option.bind_some, p77 a b T L _ k (by omega) (by omega) h3 (by omega), HP.stErr, hkr, Option.bind_some, show (if firstE 0 (codeIf true 2) = 0 then (depS T k (peaksS now ss), (0 : Int)) else (0, firstE 0 (codeIf true 2))) = (depS T k (peaksS now ss), 0) from if_pos rfl]
    simp only
    have d1 := dep_mono H.lo.ok.asc (k := k) pl1
    have d2 := dep_mono H.lo.ok.asc (k := k) pl2
    have hin : inR (depS T k (peaksS now ss)) (depS T k (peaksS lo (z.map (·.1)))) (depS T k (peaksS hi (z.map (·.2)))) = true := inR_iff.2 ⟨d1, d2⟩
    rw [p59, gS, Option.getD_some, hin]; rfl
theorem enc_start {a b : Int} {T : List (Int × Int)} {L : List (List (Int × Int))} {lo hi : List Int} {sp : List ((List (Int × Int)) × Int × Int)} {k : Int} {picks : List Int} {z : List (List Int × List Int)} (hT : T.length < 1000) (hn : L.length < 1000) (h3 : ∀ x ∈ L, x.length < 1000) (hp : 0 < picks.length ∧ picks.length ≤ 100) (h200 : sp.length ≤ 200) (hok : ∀ d ∈ sp, spanErrV a L d.1 d.2.1 d.2.2 = 0) (hk : 200 ≤ k ∧ k ≤ 3000) (H : BoxOk a b T L lo hi) (hr : runB b T L lo hi sp = some z) (hzl : z.length = sp.length) {A : Nat} (hA : a = (A : Int)) {v8 : Int × Int × Int} (hv : v8 = (depS T k (peaksS lo (z.map (·.1))), depS T k (peaksS hi (z.map (·.2))), 0)) :
    iterC (b13_1 a b T L lo hi sp k picks (z, 0) v8) 1000000000 (0, [], 0) = some true := by
  have hcl := H.lo.ok.cells
  have hl1 := H.lo.len
  have hl2 := H.hi.len
  refine iter_inv (b13_1 a b T L lo hi sp k picks (z, 0) v8) (fun i st => st.1 = (i : Int) ∧ st.2.2 = (i : Int) ∧ st.2.1.length = i ∧ ∀ j, j < i → lo.getD j default ≤ st.2.1.getD j default ∧ st.2.1.getD j default ≤ hi.getD j default) (fun r => r = some true) A ?_ ?_ (0, [], 0) ⟨rfl, rfl, rfl, fun j hj => by omega⟩ 1000000000 (by omega)
  · rintro i ⟨n1, now, i'⟩ hi' ⟨g1, g2, g3, g4⟩
    simp only at g1 g2 g3 g4
    subst g1; subst g2
    left
    have k1 := inT_rng H.lo.ok (H.lo.ins _ (getD_mem (show i < lo.length by omega)))
    have k2 := inT_rng H.lo.ok (H.hi.ins _ (getD_mem (show i < hi.length by omega)))
    have k3 := (leL_get H.le).2 i (by omega)
    obtain ⟨v, e, hv1, hv2⟩ := p86 sp k picks (i : Int) (lo.getD i default) (hi.getD i default) hp ⟨k1.1, k3, k2.2⟩
    unfold b13_1
    simp only [Int.toNat_natCast]
    rw [if_pos (decide_eq_true (by omega)), if_pos (rgN (show i < lo.length by omega)), if_pos (rgN (show i < hi.length by omega)), e]
    simp only [bindC]
    rw [if_pos ⟨by omega, by omega⟩, wS i (by omega)]
    refine ⟨_, rfl, by simp, by simp, by simp [g3], ?_⟩
    exact snoc_get g3 (fun j w => lo.getD j default ≤ w ∧ w ≤ hi.getD j default) g4 ⟨hv1, hv2⟩
  · rintro ⟨n1, now, i'⟩ ⟨g1, g2, g3, g4⟩
    simp only at g1 g2 g3 g4
    subst g1; subst g2
    have hlo' : leL lo now := leL_of lo now (by omega) fun j hj => (g4 j (by omega)).1
    have hhi' : leL now hi := leL_of now hi (by omega) fun j hj => (g4 j (by omega)).2
    have Hb : AllOk a b T L now := ⟨H.lo.ok, H.lo.set0, by omega, in_between H.lo.ok hlo' hhi' H.lo.ins H.hi.ins⟩
    unfold b13_1
    simp only
    rw [if_neg (by rw [decide_eq_true_eq]; omega), p19 now (by omega), Option.bind_some]
    refine ⟨_, rfl, ?_⟩
    exact enc_loop hT hn h3 hp h200 hok hk H hr hzl hA hv hlo' hhi' Hb
theorem enclosed (a b : Int) (T : List (Int × Int)) (L : List (List (Int × Int))) (lo hi : List Int) (sp : List ((List (Int × Int)) × Int × Int)) (k : Int) (picks : List Int) (hlen : sp.length ≤ 9223372036854775807) : r13 a b T L lo hi sp k picks = some true := by
  unfold r13
  rw [awake, Option.bind_some, if_neg (by simp), p15, Option.bind_some, p16, gS, Option.getD_some, p16, gS, Option.getD_some, p38 sp hlen, gS, Option.getD_some]
  by_cases hf : fewV T L = true
  · obtain ⟨h1, h2, h3⟩ := few_of hf
    by_cases hlo : lo.length ≤ 14
    · by_cases hhi : hi.length ≤ 14
      · by_cases hfs : fewS sp = true
        · obtain ⟨hl, hdd⟩ := fewS_of hfs
          have hdl : ∀ d ∈ sp, d.1.length < 1000000 := fun d hd' => by have := hdd d hd'; omega
          rw [p82 a b T L lo hi (by omega) h3 (by omega) (by omega), gS, Option.getD_some, p83 a b T L sp k (by omega) (by omega) hdl, gS, Option.getD_some]
          split
          · rfl
          · rename_i hc
            simp only [Bool.or_eq_true, not_or, Bool.not_eq_true, Bool.not_eq_false', bne_eq_false_iff_eq, decide_eq_false_iff_not, beq_eq_false_iff_ne] at hc
            obtain ⟨⟨⟨⟨_, hbx⟩, hsk⟩, hp0⟩, hp1⟩ := hc
            obtain ⟨hz, hkk⟩ := firstE_eq0 hsk
            have hk := inR_iff.1 (codeIf0 hkk (by decide))
            have H := boxOk_of hbx
            obtain ⟨h200, hok⟩ := spans_ok hz
            have hcl := H.lo.ok.cells
            have hl1 := H.lo.len
            have hl2 := H.hi.len
            have hp : 0 < picks.length ∧ picks.length ≤ 100 := by
              constructor
              · rcases Nat.eq_zero_or_pos picks.length with h | h
                · rw [h] at hp0; exact absurd rfl hp0
                · exact h
              · omega
            rw [p18 a b T L (by omega) (by omega) h3, Option.bind_some, p40 lo hi (by omega) (by omega), Option.bind_some, p44 sp (by omega) hdl, Option.bind_some]
            simp only
            rw [p43 a b T L lo hi sp (by omega) (by omega) h3 (by omega) (by omega) (by omega) hdl, Option.bind_some, r85, p44 sp (by omega) hdl, Option.bind_some, Option.bind_some]
            simp only
            rw [p84 hbx hz hk (by omega) (by omega) h3 hdl, Option.bind_some]
            unfold boxRunV
            rw [if_pos hbx, if_pos hz]
            cases hr : runB b T L lo hi sp with
            | none => rfl
            | some z =>
              obtain ⟨hzl, hzx⟩ := runB_len sp lo hi z hr
              rw [show depV T k lo hi (some z) = (depS T k (peaksS lo (z.map (·.1))), depS T k (peaksS hi (z.map (·.2))), 0) from rfl, show bxF (some z) [] = (z, 0) from rfl, if_neg (show ¬ (((z, (0 : Int)).2 != 0) = true) by simp)]
              obtain ⟨A, hA⟩ : ∃ A : Nat, a = (A : Int) := ⟨a.toNat, by omega⟩
              exact enc_start (by omega) (by omega) h3 hp h200 hok hk H hr hzl hA rfl
        · have e : fewS sp = false := by simpa using hfs
          simp [e]
      · have e : decide ((hi.length : Int) ≤ 14) = false := by rw [decide_eq_false_iff_not]; omega
        simp [e]
    · have e : decide ((lo.length : Int) ≤ 14) = false := by rw [decide_eq_false_iff_not]; omega
      simp [e]
  · have e : fewV T L = false := by simpa using hf
    simp [e]
end Go.Proofs.Ytcbiiijnaeibhaa

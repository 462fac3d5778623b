/- Strings: a valid ladder is parsed again; the law. -/
import Derived.Test.YtkhfaooknmoboaaGreatDoorF05
import Derived.Test.YtkhfaooknmoboaaGreatDoorStrF
set_option linter.unusedVariables false
set_option linter.unusedSimpArgs false
namespace Go.Proofs.YtkhfaooknmoboaaGreatDoor
open Go.Abs

theorem itoa_wd {n : Int} (h1 : 0 ≤ n) (h2 : n ≤ 99) : Wd 3 (Lib.itoa n) ∧ wval (Lib.itoa n) = n := by
  obtain ⟨m, rfl⟩ := Int.eq_ofNat_of_zero_le h1
  rw [itoa_pos]
  obtain ⟨c, v, _⟩ := dd_canon m
  exact ⟨⟨c, dd_len m 2 (by omega)⟩, by rw [wval, v]⟩
theorem wd_no {k : Nat} {w : List UInt8} (h : Wd k w) (c : UInt8) (hc : ¬ dig c) : c ∉ w := dig_no hc h.1.2.1
theorem wds_good {s : Int × Int × Int} (h : (1 ≤ s.1 ∧ s.1 ≤ 4) ∧ (1 ≤ s.2.1 ∧ s.2.1 ≤ 4) ∧ (1 ≤ s.2.2 ∧ s.2.2 ≤ 4)) : GoodW 3 3 (jn 32 (wds s)) ∧ shp (jn 32 (wds s)) = s ∧ (59 : UInt8) ∉ jn 32 (wds s) := by
  obtain ⟨w1, v1⟩ := itoa_wd (n := s.1) (by omega) (by omega)
  obtain ⟨w2, v2⟩ := itoa_wd (n := s.2.1) (by omega) (by omega)
  obtain ⟨w3, v3⟩ := itoa_wd (n := s.2.2) (by omega) (by omega)
  have hc : cut 32 (jn 32 (wds s)) = wds s := jn_cut 32 _ (by simp [wds]) (fun x hx => by
    simp only [wds, List.mem_cons, List.not_mem_nil, or_false] at hx
    rcases hx with rfl | rfl | rfl
    · exact wd_no w1 32 (by decide)
    · exact wd_no w2 32 (by decide)
    · exact wd_no w3 32 (by decide))
  refine ⟨⟨by rw [hc]; rfl, fun w hw => ?_⟩, ?_, ?_⟩
  · rw [hc] at hw
    simp only [wds, List.mem_cons, List.not_mem_nil, or_false] at hw
    rcases hw with rfl | rfl | rfl
    · exact w1
    · exact w2
    · exact w3
  · rw [shp, wvals, hc]
    show (wval (Lib.itoa s.1), wval (Lib.itoa s.2.1), wval (Lib.itoa s.2.2)) = s
    rw [v1, v2, v3]
  · simp only [wds, jn, List.mem_append, List.mem_cons]
    rintro (h | h | h | h | h)
    · exact wd_no w1 59 (by decide) h
    · revert h; decide
    · exact wd_no w2 59 (by decide) h
    · revert h; decide
    · exact wd_no w3 59 (by decide) h
theorem round {T : Int} {L : List (Int × Int × Int)} (h : ladE T L = 0) (hl : (fmtL T L).length ≤ 60000) : parseV (fmtL T L) = (T, L, 0) := by
  obtain ⟨hT, h4, hL⟩ := ladE_zero h
  obtain ⟨w0, v0⟩ := itoa_wd (n := T) (by omega) (by omega)
  have hc : cut 59 (fmtL T L) = Lib.itoa T :: L.map fun s => jn 32 (wds s) := jn_cut 59 _ (by simp) (fun x hx => by
    rcases List.mem_cons.mp hx with rfl | hx
    · exact wd_no w0 59 (by decide)
    · obtain ⟨s, hs, rfl⟩ := List.mem_map.1 hx
      exact (wds_good (hL s hs)).2.2)
  have c0 : cut 32 (Lib.itoa T) = [Lib.itoa T] := cut_none (wd_no w0 32 (by decide))
  have g0 : GoodW 3 1 (Lib.itoa T) := ⟨by rw [c0]; rfl, fun w hw => by rw [c0, List.mem_singleton] at hw; rw [hw]; exact w0⟩
  have hg : ∀ p ∈ (L.map fun s => jn 32 (wds s)), GoodW 3 3 p := fun p hp => by
    obtain ⟨s, hs, rfl⟩ := List.mem_map.1 hp
    exact (wds_good (hL s hs)).1
  have eT : trn (Lib.itoa T) = T := by rw [trn, wvals, c0]; exact v0
  have eL : (L.map fun s => jn 32 (wds s)).map shp = L := by
    rw [List.map_map]
    have : ∀ s ∈ L, (shp ∘ fun s => jn 32 (wds s)) s = id s := fun s hs => (wds_good (hL s hs)).2.1
    rw [List.map_congr_left this, List.map_id]
  have := parse_end (Lib.itoa T) (L.map fun s => jn 32 (wds s)) T L eT.symm eL.symm g0 hg hl hc
  rw [if_neg (by rw [h]; decide)] at this
  exact (Option.some.inj this).symm
theorem awake4 : r4 = some true := by decide +kernel
theorem r10_len {T : Int} {L : List (Int × Int × Int)} (h : ladE T L ≠ 0) : True := trivial
theorem parse_len (l : List UInt8) (hl : l.length ≤ 100000000) : (parseV l).2.1.length < 1000000000 := by
  unfold parseV
  split
  · exact (by decide : (0 : Nat) < 1000000000)
  · split
    · split
      · have := cut_count 59 l
        show ((cut 59 l).tail.map shp).length < _
        rw [List.length_map, List.length_tail]; omega
      · exact (by decide : (0 : Nat) < 1000000000)
    · exact (by decide : (0 : Nat) < 1000000000)
/-- THE LAW -/
theorem strings_law (T : Int) (L : List (Int × Int × Int)) (t : ByteArray) (hT : In64 T) (hL : ∀ s ∈ L, In3 s) : r3 T L t = some true := by
  unfold r3
  rw [awake4, Option.bind_some, if_neg (by decide), few5, Option.bind_some]
  by_cases hf : ((!(decide ((L.length : Int) ≤ 6))) || (decide ((t.size : Int) > 60))) = true
  · rw [if_pos hf]
  · rw [if_neg hf]
    have hf' : L.length ≤ 6 ∧ t.size ≤ 60 := by simp at hf; omega
    obtain ⟨h6, h60⟩ := hf'
    have hfl := fmt_len hT hL
    rw [← lb_bl t, p7 T L h6, Option.bind_some]
    simp only
    rw [p6 T L hT hL h6, Option.bind_some, p8, Option.bind_some, p9, Option.bind_some, p10 T L hT hL h6, Option.bind_some]
    rw [size_bl] at h60
    have hpl := parse_len (bl t) (by omega)
    rw [p11 _ _ hpl, if_pos (by intro _; rfl), if_neg (by simp), p12, Option.bind_some]
    by_cases he : ladE T L = 0
    · rw [he, if_neg (by decide), p8, Option.bind_some, round he (by omega)]
      simp only
      rw [p11 T L (by omega), if_pos (by intro _; rfl)]
      rfl
    · rw [if_pos (by simpa using he)]
end Go.Proofs.YtkhfaooknmoboaaGreatDoor

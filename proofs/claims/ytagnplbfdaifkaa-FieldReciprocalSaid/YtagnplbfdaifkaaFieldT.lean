/- Field: impedances and transfers, of the code and of the reference. -/
import Derived.Test.YtagnplbfdaifkaaFieldGc
import Derived.Test.YtagnplbfdaifkaaFieldG
set_option linter.unusedVariables false
set_option linter.unusedSimpArgs false
namespace Go.Proofs.Ytagnplbfdaifkaa
open Go.Abs

theorem sq_le {a B : Int} (hB : 0 ≤ B) (h : a * a ≤ B * B) : -B ≤ a ∧ a ≤ B := by
  constructor
  · by_cases hc : -B ≤ a
    · exact hc
    · have h1 : B + 1 ≤ -a := by omega
      have := Int.mul_le_mul h1 h1 (by omega) (by omega)
      rw [Int.neg_mul_neg] at this
      have e : (B + 1) * (B + 1) = B * B + 2 * B + 1 := by grind
      omega
  · by_cases hc : a ≤ B
    · exact hc
    · have h1 : B + 1 ≤ a := by omega
      have := Int.mul_le_mul h1 h1 (by omega) (by omega)
      have e : (B + 1) * (B + 1) = B * B + 2 * B + 1 := by grind
      omega
theorem nrm_bd2 {v : Int × Int} {B : Int} (hB : 0 ≤ B) (h : nrm v ≤ B * B) : Bd B v := by
  have h1 := sqI v.1
  have h2 := sqI v.2
  unfold nrm at h
  have a := sq_le (a := v.1) hB (by omega)
  have b := sq_le (a := v.2) hB (by omega)
  exact ⟨a.1, a.2, b.1, b.2⟩
theorem bU_le {n : Nat} (h : n ≤ 4) : (bU n).1 ≤ 70295680 ∧ (bU n).2 ≤ 283362561 := by
  match n, h with
  | 0, _ => decide
  | 1, _ => decide
  | 2, _ => decide
  | 3, _ => decide
  | 4, _ => decide
theorem Bd.mono {b c : Int} {v : Int × Int} (h : Bd b v) (hc : b ≤ c) : Bd c v := by
  obtain ⟨a, b', c', d⟩ := h
  exact ⟨by omega, by omega, by omega, by omega⟩
variable {cs xs : List Int}
theorem Lad.xg (h : Lad cs xs) : ∀ k, k < cs.length → 1 ≤ xs.getD k default ∧ xs.getD k default ≤ 32 := fun k hk => h.x _ (getD_mem (by rw [h.len]; exact hk))
theorem Lad.cg (h : Lad cs xs) : ∀ k, k < cs.length → 1 ≤ cs.getD k default ∧ cs.getD k default ≤ 4 := fun k hk => h.c _ (getD_mem hk)
theorem fwdB (h : Lad cs xs) (h4 : cs.length ≤ 4) {k : Nat} (hk : k ≤ cs.length) : Bd 70295680 (fwd cs xs k).1 ∧ Bd 283362561 (fwd cs xs k).2 := by
  obtain ⟨a, b⟩ := fwd_bd h.xg h.cg k hk
  have hp := bU_pos k
  have hl := bU_le (n := k) (by omega)
  exact ⟨(nrm_bd2 hp.1 a).mono hl.1, (nrm_bd2 (by omega) b).mono hl.2⟩
theorem vVB (h : Lad cs xs) (h4 : cs.length ≤ 4) (k : Nat) : Bd 283362561 (vV cs xs k) ∧ Bd 8786960 (vI cs xs k) := by
  obtain ⟨a, b⟩ := solV_bd (h.drop k)
  have hl := bV_le (n := (cs.drop k).length) (by simp; omega)
  exact ⟨a.mono hl.1, b.mono hl.2⟩
theorem vVB1 (h : Lad cs xs) (h4 : cs.length ≤ 4) {k : Nat} (hk : 1 ≤ k) : Bd 2179841 (vV cs xs k) := (solP_bd h h4 hk).1
theorem Bd.r63 {b : Int} {v : Int × Int} (h : Bd b v) (hb : b ≤ 9223372036854775807) : R63 v.1 ∧ R63 v.2 := by
  obtain ⟨a, b', c', d⟩ := h
  exact ⟨⟨by omega, by omega⟩, by omega, by omega⟩
/-- the impedance -/
def impV (T : Int) (cs xs : List Int) : Int × Int × Int × Int := redV (T * T * (vV cs xs 0).1) (T * T * (vV cs xs 0).2) (vI cs xs 0).1 (vI cs xs 0).2
theorem turnsB {T : Int} (h : 1 ≤ T ∧ T ≤ 20) : 1 ≤ T * T ∧ T * T ≤ 400 := by
  have a := Int.mul_le_mul h.1 h.1 (by omega) (by omega)
  have b := Int.mul_le_mul h.2 h.2 (by omega) (by omega)
  omega
variable {T : Int} {L : List (Int × Int × Int)} {f : Int} {H : List Bool}
theorem Ok.len4 (ok : Ok T L f H) : 1 ≤ (condsV L).length ∧ (condsV L).length ≤ 4 := by
  rw [condsV_len]; exact ⟨ok.lad.pos, ok.lad.le⟩
theorem impR (ok : Ok T L f H) : (R63 (T * T * (vV (condsV L) (reactV f L H) 0).1) ∧ R63 (T * T * (vV (condsV L) (reactV f L H) 0).2)) ∧ R63 (vI (condsV L) (reactV f L H) 0).1 ∧ R63 (vI (condsV L) (reactV f L H) 0).2 := by
  obtain ⟨a, b⟩ := vVB ok.ladr ok.len4.2 0
  have ht := turnsB ok.lad.turns
  obtain ⟨v1, v2, v3, v4⟩ := a
  have m1 := mulB (by omega) ht.2 v1 v2
  have m2 := mulB (by omega) ht.2 v3 v4
  exact ⟨⟨⟨by omega, by omega⟩, by omega, by omega⟩, b.r63 (by omega)⟩
theorem p18 (T : Int) (L : List (Int × Int × Int)) (f : Int) (H : List Bool) : r18 T L f H = some (if bothE T L f H = 0 then ((impV T (condsV L) (reactV f L H)).1, (impV T (condsV L) (reactV f L H)).2.1, (impV T (condsV L) (reactV f L H)).2.2.1, (impV T (condsV L) (reactV f L H)).2.2.2, 0) else (0, 0, 0, 0, bothE T L f H)) := by
  unfold r18
  rw [p83, Option.bind_some]
  by_cases hb : bothE T L f H = 0
  · have ok := ok_of hb
    have hl := ok.len4
    obtain ⟨l1, l2⟩ := solV_len (condsV L) (reactV f L H) ok.ladr.len
    have ht := turnsB ok.lad.turns
    obtain ⟨⟨i1, i2⟩, i3, i4⟩ := impR ok
    simp only [if_pos hb]
    rw [if_neg (by simp), p84 ok.ladr hl.1 hl.2, Option.bind_some, if_pos ⟨by omega, by omega⟩, solV_get ok.ladr.len 0 (by omega), r86, wI (a := T * T) (by omega) (by omega), Option.bind_some, if_pos ⟨by omega, by omega⟩, solI_get ok.ladr.len 0 (by omega)]
    have j1 := i1
    have j2 := i2
    unfold R63 at j1 j2
    rw [wI (by omega) (by omega), wI (by omega) (by omega), p85 i1 i2 i3 i4, Option.bind_some]; rfl
  · simp only [if_neg hb]
    rw [if_pos (by simpa using hb)]
theorem p23 (ok : Ok T L f H) : r23 T L f H = some (impV T (condsV L) (reactV f L H)) := by
  have hl := ok.len4
  obtain ⟨l1, l2⟩ := solV_len (condsV L) (reactV f L H) ok.ladr.len
  have ht := turnsB ok.lad.turns
  obtain ⟨⟨i1, i2⟩, i3, i4⟩ := impR ok
  have j1 := i1
  have j2 := i2
  unfold R63 at j1 j2
  unfold r23
  rw [p56 ok, Option.bind_some, if_pos ⟨by omega, by omega⟩, solV_get ok.ladr.len 0 (by omega), r93, wI (a := T * T) (by omega) (by omega), Option.bind_some, if_pos ⟨by omega, by omega⟩, solI_get ok.ladr.len 0 (by omega)]
  rw [wI (by omega) (by omega), wI (by omega) (by omega), p92 i1 i2 i3 i4, Option.bind_some]; rfl
/-- the transfer, before it is reduced; the transfer -/
def tnum (cs xs : List Int) (m n : Nat) : Int × Int :=
  (-((fwd cs xs (min m n + 1)).1.1 * (vV cs xs (max m n + 1)).1 - (fwd cs xs (min m n + 1)).1.2 * (vV cs xs (max m n + 1)).2), -((fwd cs xs (min m n + 1)).1.1 * (vV cs xs (max m n + 1)).2 + (fwd cs xs (min m n + 1)).1.2 * (vV cs xs (max m n + 1)).1))
def trV (cs xs : List Int) (m n : Nat) : Int × Int × Int × Int := redV (tnum cs xs m n).1 (tnum cs xs m n).2 (vV cs xs 0).1 (vV cs xs 0).2
theorem prodBB {v i b c : Int} (h1 : -b ≤ v) (h2 : v ≤ b) (h3 : -c ≤ i) (h4 : i ≤ c) : -(b * c) ≤ v * i ∧ v * i ≤ b * c := by
  have e : b * c = c * b := Int.mul_comm b c
  have e' : v * i = i * v := Int.mul_comm v i
  rcases Int.le_total 0 i with h | h
  · have := mulB h h4 h1 h2
    omega
  · have := mulB (c := -i) (C := c) (by omega) (by omega) h1 h2
    rw [Int.neg_mul] at this
    omega
theorem timesW {u v : Int × Int} (hu : Bd 70295680 u) (hv : Bd 2179841 v) :
    r91 u.1 u.2 v.1 v.2 = some (u.1 * v.1 - u.2 * v.2, u.1 * v.2 + u.2 * v.1) ∧ r95 u.1 u.2 v.1 v.2 = some (u.1 * v.1 - u.2 * v.2, u.1 * v.2 + u.2 * v.1) ∧
    Bd 400000000000000 (-(u.1 * v.1 - u.2 * v.2), -(u.1 * v.2 + u.2 * v.1)) ∧ Bd 400000000000000 ((u.1 * v.1 - u.2 * v.2), (u.1 * v.2 + u.2 * v.1)) := by
  obtain ⟨u1, u2, u3, u4⟩ := hu
  obtain ⟨v1, v2, v3, v4⟩ := hv
  have a1 := prodBB u1 u2 v1 v2
  have a2 := prodBB u3 u4 v3 v4
  have a3 := prodBB u1 u2 v3 v4
  have a4 := prodBB u3 u4 v1 v2
  have w : ∀ a : Int, -400000000000000 ≤ a → a ≤ 400000000000000 → IntKind.i64.wrap a = a := fun a h1 h2 => wI (by omega) (by omega)
  refine ⟨?_, ?_, ⟨by simp only []; omega, by simp only []; omega, by simp only []; omega, by simp only []; omega⟩, by simp only []; omega, by simp only []; omega, by simp only []; omega, by simp only []; omega⟩
  · unfold r91
    rw [w (u.1 * v.1) (by omega) (by omega), w (u.2 * v.2) (by omega) (by omega), w _ (by omega) (by omega), w (u.1 * v.2) (by omega) (by omega), w (u.2 * v.1) (by omega) (by omega), w _ (by omega) (by omega)]
  · unfold r95
    rw [w (u.1 * v.1) (by omega) (by omega), w (u.2 * v.2) (by omega) (by omega), w _ (by omega) (by omega), w (u.1 * v.2) (by omega) (by omega), w (u.2 * v.1) (by omega) (by omega), w _ (by omega) (by omega)]
theorem negW {p : Int × Int} (h : Bd 400000000000000 p) : r86 p.1 p.2 (-1) = some (-p.1, -p.2) ∧ r93 p.1 p.2 (-1) = some (-p.1, -p.2) := by
  obtain ⟨a, b, c, d⟩ := h
  unfold r86 r93
  rw [Int.neg_mul, Int.one_mul, Int.neg_mul, Int.one_mul, wI (by omega) (by omega), wI (by omega) (by omega)]
  exact ⟨rfl, rfl⟩
theorem minN (m n : Nat) : (if (n : Int) < (m : Int) then (n : Int) else (m : Int)) = ((min m n : Nat) : Int) := by
  split <;> omega
theorem maxN (m n : Nat) : (if (m : Int) < (n : Int) then (n : Int) else (m : Int)) = ((max m n : Nat) : Int) := by
  split <;> omega
/-- the loop from the input -/
def stT (cs xs : List Int) (o : Nat) (j : Nat) : Int × Int × Int × Int × Int :=
  ((j : Int), (fwd cs xs j).1.1, (fwd cs xs j).1.2, if j ≤ o then (fwd cs xs j).2.1 else (fwd cs xs o).2.1, if j ≤ o then (fwd cs xs j).2.2 else (fwd cs xs o).2.2)
theorem fwd_u (cs xs : List Int) (k : Nat) : (fwd cs xs (k + 1)).1 = ((fwd cs xs k).1.1 + xs.getD k default * (fwd cs xs k).2.2, (fwd cs xs k).1.2 - xs.getD k default * (fwd cs xs k).2.1) := rfl
theorem fwd_i (cs xs : List Int) (k : Nat) : (fwd cs xs (k + 1)).2 = ((fwd cs xs k).2.1 - cs.getD k default * (fwd cs xs (k + 1)).1.1, (fwd cs xs k).2.2 - cs.getD k default * (fwd cs xs (k + 1)).1.2) := rfl
theorem step21 (h : Lad cs xs) (h4 : cs.length ≤ 4) {m n : Nat} (hm : m < cs.length) (hn : n < cs.length) {j : Nat} (hj : j < min m n + 1) (e : Int) :
    b21_1 m n (cs, xs, e) (stT cs xs (min m n) j) = .next (stT cs xs (min m n) (j + 1)) := by
  have hjl : j < cs.length := by omega
  have hxl : j < xs.length := by rw [h.len]; exact hjl
  have e1 : IntKind.i64.wrap (((min m n : Nat) : Int) + 1) = ((min m n + 1 : Nat) : Int) := by rw [wI (by omega) (by omega)]; rfl
  obtain ⟨a1, a2⟩ := fwdB h h4 (show j ≤ cs.length by omega)
  obtain ⟨b1, b2⟩ := fwdB h h4 (show j + 1 ≤ cs.length by omega)
  have hc := h.cg j hjl
  have hx := h.xg j hjl
  have hu := fwd_u cs xs j
  have hi := fwd_i cs xs j
  obtain ⟨u1, u2, u3, u4⟩ := a1
  obtain ⟨i1, i2, i3, i4⟩ := a2
  obtain ⟨p1, p2, p3, p4⟩ := b1
  obtain ⟨q1, q2, q3, q4⟩ := b2
  have m1 := mulB (by omega) hx.2 i1 i2
  have m2 := mulB (by omega) hx.2 i3 i4
  have m3 := mulB (by omega) hc.2 p1 p2
  have m4 := mulB (by omega) hc.2 p3 p4
  have f1 : (fwd cs xs (j + 1)).1.1 = (fwd cs xs j).1.1 + xs.getD j default * (fwd cs xs j).2.2 := by rw [hu]
  have f2 : (fwd cs xs (j + 1)).1.2 = (fwd cs xs j).1.2 - xs.getD j default * (fwd cs xs j).2.1 := by rw [hu]
  have f3 : (fwd cs xs (j + 1)).2.1 = (fwd cs xs j).2.1 - cs.getD j default * (fwd cs xs (j + 1)).1.1 := by rw [hi]
  have f4 : (fwd cs xs (j + 1)).2.2 = (fwd cs xs j).2.2 - cs.getD j default * (fwd cs xs (j + 1)).1.2 := by rw [hi]
  simp only [b21_1, stT, minN, e1, if_pos (show j ≤ min m n by omega), ltN hj, if_true, if_pos (rgN hxl), if_pos (rgN hjl), Int.toNat_natCast, r90, r89, r86, bindC, wS j (by omega)]
  generalize xs.getD j default = x at *
  generalize cs.getD j default = c at *
  generalize hF : fwd cs xs (j + 1) = F at *
  generalize hG : fwd cs xs j = G at *
  have e5 : (0 - x) * G.2.1 = -(x * G.2.1) := by rw [Int.zero_sub, Int.neg_mul]
  have e6 : (0 - (0 - x)) * G.2.2 = x * G.2.2 := by rw [Int.zero_sub, Int.zero_sub, Int.neg_neg]
  have e7 : (0 - c) * F.1.1 = -(c * F.1.1) := by rw [Int.zero_sub, Int.neg_mul]
  have e8 : (0 - c) * F.1.2 = -(c * F.1.2) := by rw [Int.zero_sub, Int.neg_mul]
  rw [wI (a := 0 - x) (by omega) (by omega), wI (a := 0 - (0 - x)) (by omega) (by omega), e5, e6, wI (a := x * G.2.2) (by omega) (by omega), wI (a := -(x * G.2.1)) (by omega) (by omega), ← Int.sub_eq_add_neg, ← f1, ← f2,
    wI (a := F.1.1) (by omega) (by omega), wI (a := F.1.2) (by omega) (by omega), wI (a := 0 - c) (by omega) (by omega), e7, e8, wI (a := -(c * F.1.1)) (by omega) (by omega), wI (a := -(c * F.1.2)) (by omega) (by omega), ← Int.sub_eq_add_neg, ← Int.sub_eq_add_neg, ← f3, ← f4,
    wI (a := F.2.1) (by omega) (by omega), wI (a := F.2.2) (by omega) (by omega)]
  by_cases hlt : j < min m n
  · rw [if_pos (by simpa using hlt), if_pos (by omega), if_pos (by omega)]; rfl
  · have : j = min m n := by omega
    rw [if_neg (by simpa using hlt), if_neg (by omega), if_neg (by omega), ← this, hG]; rfl
theorem p88 (T : Int) (L : List (Int × Int × Int)) (a : Int) (h : L.length ≤ 1000000) : r88 T L a = some (codeIf (inR a 0 ((L.length : Int) - 1)) 6) := by
  unfold r88
  rw [wI (by omega) (by omega), p97, Option.bind_some, p96]; rfl
theorem p24 (T : Int) (L : List (Int × Int × Int)) (a : Int) (h : L.length ≤ 1000000) : r24 T L a = some (codeIf (inR a 0 ((L.length : Int) - 1)) 6) := by
  unfold r24
  rw [wI (by omega) (by omega), p33, Option.bind_some]
  unfold codeIf
  cases inR a 0 ((L.length : Int) - 1) <;> rfl
theorem trR (h : Lad cs xs) (h4 : cs.length ≤ 4) {m n : Nat} (hm : m < cs.length) : Bd 400000000000000 (tnum cs xs m n) ∧ r91 (fwd cs xs (min m n + 1)).1.1 (fwd cs xs (min m n + 1)).1.2 (vV cs xs (max m n + 1)).1 (vV cs xs (max m n + 1)).2 = some (-(tnum cs xs m n).1, -(tnum cs xs m n).2) ∧
    r95 (fwd cs xs (min m n + 1)).1.1 (fwd cs xs (min m n + 1)).1.2 (vV cs xs (max m n + 1)).1 (vV cs xs (max m n + 1)).2 = some (-(tnum cs xs m n).1, -(tnum cs xs m n).2) := by
  obtain ⟨a, b, c, d⟩ := timesW (fwdB h h4 (show min m n + 1 ≤ cs.length by omega)).1 (vVB1 h h4 (show 1 ≤ max m n + 1 by omega))
  refine ⟨c, ?_, ?_⟩
  · rw [a]; simp only [tnum, Int.neg_neg]
  · rw [b]; simp only [tnum, Int.neg_neg]
theorem negT (h : Lad cs xs) (h4 : cs.length ≤ 4) {m n : Nat} (hm : m < cs.length) : r86 (-(tnum cs xs m n).1) (-(tnum cs xs m n).2) (-1) = some ((tnum cs xs m n).1, (tnum cs xs m n).2) ∧ r93 (-(tnum cs xs m n).1) (-(tnum cs xs m n).2) (-1) = some ((tnum cs xs m n).1, (tnum cs xs m n).2) := by
  obtain ⟨a, b, c, d⟩ := (trR h h4 (n := n) hm).1
  have := negW (p := (-(tnum cs xs m n).1, -(tnum cs xs m n).2)) ⟨by simp only []; omega, by simp only []; omega, by simp only []; omega, by simp only []; omega⟩
  simpa only [Int.neg_neg] using this
theorem p21 (hb : bothE T L f H = 0) {m n : Nat} (hm : m < L.length) (hn : n < L.length) :
    r21 T L f H m n = some ((trV (condsV L) (reactV f L H) m n).1, (trV (condsV L) (reactV f L H) m n).2.1, (trV (condsV L) (reactV f L H) m n).2.2.1, (trV (condsV L) (reactV f L H) m n).2.2.2, 0) := by
  have ok := ok_of hb
  have hle := ok.lad.le
  have hcl := condsV_len L
  have h := ok.ladr
  have hl := ok.len4
  have hm' : m < (condsV L).length := by omega
  have hn' : n < (condsV L).length := by omega
  obtain ⟨l1, l2⟩ := solV_len (condsV L) (reactV f L H) h.len
  unfold r21
  rw [p83, Option.bind_some, p88 T L m (by omega), Option.bind_some, p88 T L n (by omega), Option.bind_some, p87 _ (by simp), Option.bind_some]
  simp only [if_pos hb, inR_iff.2 (show (0 : Int) ≤ (m : Int) ∧ (m : Int) ≤ (L.length : Int) - 1 by omega), inR_iff.2 (show (0 : Int) ≤ (n : Int) ∧ (n : Int) ≤ (L.length : Int) - 1 by omega), codeIf, if_true, firstV]
  rw [if_neg (by simp)]
  have key := iter_run (min m n + 1) (b21_1 m n (condsV L, reactV f L H, 0)) (stT (condsV L) (reactV f L H) (min m n)) (some ((trV (condsV L) (reactV f L H) m n).1, (trV (condsV L) (reactV f L H) m n).2.1, (trV (condsV L) (reactV f L H) m n).2.2.1, (trV (condsV L) (reactV f L H) m n).2.2.2, 0)) (by omega)
    (fun j hj => step21 h hl.2 hm' hn' hj 0) (by
      have e1 : IntKind.i64.wrap (((min m n : Nat) : Int) + 1) = ((min m n + 1 : Nat) : Int) := by rw [wI (by omega) (by omega)]; rfl
      have e2 : IntKind.i64.wrap (((max m n : Nat) : Int) + 1) = ((max m n + 1 : Nat) : Int) := by rw [wI (by omega) (by omega)]; rfl
      obtain ⟨t1, t2, t3⟩ := trR h hl.2 (n := n) hm'
      have hmx : max m n + 1 < (solV (condsV L) (reactV f L H)).1.length := by omega
      obtain ⟨r1, r2⟩ := t1.r63 (by omega)
      obtain ⟨r3, r4⟩ := (vVB h hl.2 0).1.r63 (by omega)
      unfold b21_1
      simp only [minN, maxN, e1, e2, stT]
      rw [if_neg (by simp)]
      rw [p84 h hl.1 hl.2, Option.bind_some, if_pos (rgN hmx), Int.toNat_natCast, solV_get h.len _ (by omega), t2, Option.bind_some]
      simp only []
      rw [(negT h hl.2 hm').1, Option.bind_some, if_pos ⟨by omega, by omega⟩, solV_get h.len 0 (by omega)]
      simp only []
      rw [p85 r1 r2 r3 r4, Option.bind_some]
      rfl)
  rw [← key]
  simp [stT, fwd]
/-- the reference's list of voltages from the input -/
def uL (cs xs : List Int) (n : Nat) : List (Int × Int) := (List.range n).map (fun k => (fwd cs xs (k + 1)).1)
theorem uL_len (cs xs : List Int) (n : Nat) : (uL cs xs n).length = n := by simp [uL]
theorem uL_succ (cs xs : List Int) (n : Nat) : uL cs xs (n + 1) = uL cs xs n ++ [(fwd cs xs (n + 1)).1] := by
  simp [uL, List.range_succ]
theorem uL_get (cs xs : List Int) {n k : Nat} (h : k < n) : (uL cs xs n).getD k default = (fwd cs xs (k + 1)).1 := by
  simp only [uL, List.getD_eq_getElem?_getD, List.getElem?_map, List.getElem?_range h]; rfl
def stU (cs xs : List Int) (j : Nat) : List (Int × Int) × Int × Int × Int × Int × Int :=
  (uL cs xs j, (j : Int), (fwd cs xs j).1.1, (fwd cs xs j).1.2, (fwd cs xs j).2.1, (fwd cs xs j).2.2)
theorem p94 (ok : Ok T L f H) : r94 T L f H = some (uL (condsV L) (reactV f L H) L.length) := by
  have hle := ok.lad.le
  have hcl := condsV_len L
  have h := ok.ladr
  have hl := ok.len4
  unfold r94
  rw [p31 ok, Option.bind_some]
  refine iter_run L.length (b94_1 L (reactV f L H)) (stU (condsV L) (reactV f L H)) _ (by omega) (fun j hj => ?_) ?_
  · have hjl : j < (condsV L).length := by omega
    have hxl : j < (reactV f L H).length := by rw [h.len]; exact hjl
    obtain ⟨a1, a2⟩ := fwdB h hl.2 (show j ≤ (condsV L).length by omega)
    obtain ⟨b1, b2⟩ := fwdB h hl.2 (show j + 1 ≤ (condsV L).length by omega)
    have hc := h.cg j hjl
    have hx := h.xg j hjl
    have hu := fwd_u (condsV L) (reactV f L H) j
    have hi := fwd_i (condsV L) (reactV f L H) j
    obtain ⟨u1, u2, u3, u4⟩ := a1
    obtain ⟨i1, i2, i3, i4⟩ := a2
    obtain ⟨p1, p2, p3, p4⟩ := b1
    obtain ⟨q1, q2, q3, q4⟩ := b2
    have m1 := mulB (by omega) hx.2 i1 i2
    have m2 := mulB (by omega) hx.2 i3 i4
    have m3 := mulB (by omega) hc.2 p1 p2
    have m4 := mulB (by omega) hc.2 p3 p4
    rw [condsV_get L j hj] at *
    simp only [b94_1, stU, uL_succ, uL_len, ltN hj, if_true, if_pos (rgN hxl), if_pos (rgN hj), Int.toNat_natCast, r117, r93, r35, bindC, wS j (by omega)]
    have f1 : (fwd (condsV L) (reactV f L H) (j + 1)).1.1 = (fwd (condsV L) (reactV f L H) j).1.1 + (reactV f L H).getD j default * (fwd (condsV L) (reactV f L H) j).2.2 := by rw [hu]
    have f2 : (fwd (condsV L) (reactV f L H) (j + 1)).1.2 = (fwd (condsV L) (reactV f L H) j).1.2 - (reactV f L H).getD j default * (fwd (condsV L) (reactV f L H) j).2.1 := by rw [hu]
    have f3 : (fwd (condsV L) (reactV f L H) (j + 1)).2.1 = (fwd (condsV L) (reactV f L H) j).2.1 - (L.getD j default).1 * (fwd (condsV L) (reactV f L H) (j + 1)).1.1 := by rw [hi]
    have f4 : (fwd (condsV L) (reactV f L H) (j + 1)).2.2 = (fwd (condsV L) (reactV f L H) j).2.2 - (L.getD j default).1 * (fwd (condsV L) (reactV f L H) (j + 1)).1.2 := by rw [hi]
    generalize (reactV f L H).getD j default = x at *
    generalize (L.getD j default).1 = c at *
    generalize hF : fwd (condsV L) (reactV f L H) (j + 1) = F at *
    generalize hG : fwd (condsV L) (reactV f L H) j = G at *
    have e5 : x * (0 - G.2.2) = -(x * G.2.2) := by rw [Int.zero_sub, Int.mul_neg]
    have e6 : G.1.1 - -(x * G.2.2) = G.1.1 + x * G.2.2 := by omega
    rw [if_pos (show (j + 1) * 16 ≤ 140737488355328 ∧ j + 1 ≤ 9223372036854775807 by omega), wI (a := 0 - G.2.2) (by omega) (by omega), e5, wI (a := -(x * G.2.2)) (by omega) (by omega), wI (a := x * G.2.1) (by omega) (by omega), e6, ← f1, ← f2,
      wI (a := F.1.1) (by omega) (by omega), wI (a := F.1.2) (by omega) (by omega), wI (a := c * F.1.1) (by omega) (by omega), wI (a := c * F.1.2) (by omega) (by omega), ← f3, ← f4, wI (a := F.2.1) (by omega) (by omega), wI (a := F.2.2) (by omega) (by omega), if_pos (by simpa using hj)]
    rfl
  · unfold b94_1
    rw [if_neg (by simp [stU])]
    rfl
theorem p25 (ok : Ok T L f H) {m n : Nat} (hm : m < L.length) (hn : n < L.length) : r25 T L f H m n = some (trV (condsV L) (reactV f L H) m n) := by
  have hle := ok.lad.le
  have hcl := condsV_len L
  have h := ok.ladr
  have hl := ok.len4
  have hm' : m < (condsV L).length := by omega
  obtain ⟨l1, l2⟩ := solV_len (condsV L) (reactV f L H) h.len
  have e2 : IntKind.i64.wrap (((max m n : Nat) : Int) + 1) = ((max m n + 1 : Nat) : Int) := by rw [wI (by omega) (by omega)]; rfl
  obtain ⟨t1, t2, t3⟩ := trR h hl.2 (n := n) hm'
  have hmx : max m n + 1 < (solV (condsV L) (reactV f L H)).1.length := by omega
  have hmn : min m n < (uL (condsV L) (reactV f L H) L.length).length := by rw [uL_len]; omega
  obtain ⟨r1, r2⟩ := t1.r63 (by omega)
  obtain ⟨r3, r4⟩ := (vVB h hl.2 0).1.r63 (by omega)
  unfold r25
  rw [p56 ok, Option.bind_some, p94 ok, Option.bind_some]
  simp only [minN, maxN, e2]
  rw [if_pos (rgN hmn), if_pos (rgN hmx), Int.toNat_natCast, Int.toNat_natCast, uL_get _ _ (show min m n < L.length by omega), solV_get h.len _ (by omega), t3, Option.bind_some]
  simp only []
  rw [(negT h hl.2 hm').2, Option.bind_some, if_pos ⟨by omega, by omega⟩, solV_get h.len 0 (by omega)]
  simp only []
  rw [p92 r1 r2 r3 r4, Option.bind_some]
  rfl
end Go.Proofs.Ytagnplbfdaifkaa

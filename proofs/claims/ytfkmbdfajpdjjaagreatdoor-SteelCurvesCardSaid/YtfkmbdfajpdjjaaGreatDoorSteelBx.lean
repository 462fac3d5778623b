/- Steel: boxes as plain values: a box's step holds the steps of all states in it (plain). -/
import Derived.Test.YtfkmbdfajpdjjaaGreatDoorSteelT
set_option linter.unusedVariables false
set_option linter.unusedSimpArgs false
namespace Go.Proofs.YtfkmbdfajpdjjaaGreatDoor
open Go.Abs

structure BxV where
  (pl ph al ah bl bh ml mh wl wh gl gh tl th : Int)
/-- a state in a box -/
structure InB (b : BxV) (p s e m w g t : Int) : Prop where
  p : b.pl ≤ p ∧ p ≤ b.ph
  s : b.al ≤ s ∧ s ≤ b.ah
  e : b.bl ≤ e ∧ e ≤ b.bh
  m : b.ml ≤ m ∧ m ≤ b.mh
  w : b.wl ≤ w ∧ w ≤ b.wh
  g : b.gl ≤ g ∧ g ≤ b.gh
  t : b.tl ≤ t ∧ t ≤ b.th
def InT (b : BxV) (x : St7) : Prop := InB b x.1 x.2.1 x.2.2.1 x.2.2.2.1 x.2.2.2.2.1 x.2.2.2.2.2.1 x.2.2.2.2.2.2
/-- a box's ends -/
structure BxR (b : BxV) : Prop where
  p : 0 ≤ b.pl ∧ b.ph ≤ 1000000
  s : 0 ≤ b.al ∧ b.ah ≤ 1000000
  e : 0 ≤ b.bl ∧ b.bh ≤ 1000000
  m : 0 ≤ b.ml ∧ b.mh ≤ 1000000
  w : 0 ≤ b.wl ∧ b.wh ≤ 1000000
  g : 0 ≤ b.gl ∧ b.gh ≤ 100000
  t : 0 ≤ b.tl ∧ b.th ≤ 1000000
def whV (n : Int) : Int := if 1000000 < n then 1000000 else n
def posV (n : Int) : Int := if 0 < n then n else 0
def grV (n a gr : Int) : Int := if a > 0 then (if 100000 < n + gr then 100000 else n + gr) else (if 100000 < n then 100000 else n)
def minV (a b : Int) : Int := if b < a then b else a
def maxV (a b : Int) : Int := if a < b then b else a
def hotB (lo hi gr : Int) (b : BxV) : BxV where
  pl := posV (whV (b.pl + b.bl + b.ml) - hi)
  ph := posV (whV (b.ph + b.bh + b.mh) - lo)
  al := 1000000 - posV (whV (b.ph + b.bh + b.mh) - lo)
  ah := 1000000 - posV (whV (b.pl + b.bl + b.ml) - hi)
  bl := 0
  bh := 0
  ml := 0
  mh := 0
  wl := 0
  wh := 0
  gl := grV b.gl (1000000 - posV (whV (b.ph + b.bh + b.mh) - lo)) gr
  gh := grV b.gh (1000000 - posV (whV (b.pl + b.bl + b.ml) - hi)) gr
  tl := 0
  th := 0
def coolB (wlo whi rlo rhi : Int) (b : BxV) : BxV :=
  { b with
    wl := whV (b.wl + wlo)
    wh := whV (b.wh + whi)
    al := posV (b.al - (if whV (b.wh + whi) = 1000000 then rhi else 0))
    ah := posV (b.ah - (if whV (b.wl + wlo) = 1000000 then rlo else 0))
    bl := b.bl + minV b.al (if whV (b.wl + wlo) = 1000000 then rlo else 0)
    bh := whV (b.bh + minV b.ah (if whV (b.wh + whi) = 1000000 then rhi else 0)) }
def coldB (slo shi : Int) (b : BxV) : BxV :=
  { b with
    ml := marV b.al b.ml slo
    mh := whV (marV b.ah b.mh shi)
    al := b.al + b.ml - marV b.al b.ml shi
    ah := b.ah + b.mh - marV b.ah b.mh slo }
def cooB (c : Option (Int × Int × Int × Int × Int)) (b : BxV) : BxV := match c with | none => b | some x => coolB x.2.1 x.2.2.1 x.2.2.2.1 x.2.2.2.2 b
def colB (q : Option (Int × Int × Int)) (b : BxV) : BxV := match q with | none => b | some x => coldB x.2.1 x.2.2 b
def temB (tk : Option (Int × Int)) (b : BxV) : BxV := match tk with | none => b | some y => { b with tl := whV (b.tl + y.2), th := whV (b.th + y.2) }
/-- the step of a box with one temperature -/
def boxV (H : List (Int × Int × Int × Int)) (C : List (Int × Int × Int × Int × Int)) (Q : List (Int × Int × Int)) (T : List (Int × Int)) (k : Int) (b : BxV) : BxV :=
  match heatAt H k with
  | some x => hotB x.2.1 x.2.2.1 x.2.2.2 b
  | none => temB (tempAt T k) (colB (coldAt Q k) (cooB (coolAt C k) b))
/-- the box around two boxes -/
def hullB (a b : BxV) : BxV :=
  ⟨minV a.pl b.pl, maxV a.ph b.ph, minV a.al b.al, maxV a.ah b.ah, minV a.bl b.bl, maxV a.bh b.bh, minV a.ml b.ml, maxV a.mh b.mh, minV a.wl b.wl, maxV a.wh b.wh, minV a.gl b.gl, maxV a.gh b.gh, minV a.tl b.tl, maxV a.th b.th⟩
/-- the hull of n more boxes, from i on -/
def rngB (f : Int → BxV) : Nat → Int → BxV → BxV
  | 0, _, out => out
  | n + 1, i, out => rngB f n (i + 1) (hullB out (f i))

theorem mar_le {a m s a' m' s' : Int} (h1 : 0 ≤ a) (h2 : a ≤ a') (h3 : 0 ≤ m) (h4 : m ≤ m') (h5 : 0 ≤ s) (h6 : s ≤ s') : marV a m s ≤ marV a' m' s' := by
  have a1 : 0 ≤ (a + m) * s := Int.mul_nonneg (by omega) h5
  have a2 : (a + m) * s ≤ (a' + m') * s' := Int.mul_le_mul (by omega) h6 h5 (by omega)
  unfold marV
  rw [Int.tdiv_eq_ediv_of_nonneg a1, Int.tdiv_eq_ediv_of_nonneg (by omega)]
  generalize (a + m) * s = u at a1 a2
  generalize (a' + m') * s' = z at a2
  omega
theorem left_le {a m s a' m' s' : Int} (h1 : 0 ≤ a) (h2 : a ≤ a') (h3 : 0 ≤ m) (h4 : m ≤ m') (h5 : 0 ≤ s') (h6 : s' ≤ s) (h7 : s ≤ 1000000) : a + m - marV a m s ≤ a' + m' - marV a' m' s' := by
  have a1 : 0 ≤ (a + m) * s := Int.mul_nonneg (by omega) (by omega)
  have a2 : 0 ≤ (a' + m') * s' := Int.mul_nonneg (by omega) h5
  have a3 : (a' + m') * s' ≤ (a' + m') * s := Int.mul_le_mul_of_nonneg_left h6 (by omega)
  have a4 : (a' + m') * s = (a + m) * s + (a' + m' - (a + m)) * s := by rw [← Int.add_mul]; congr 1; omega
  have a5 : (a' + m' - (a + m)) * s ≤ (a' + m' - (a + m)) * 1000000 := Int.mul_le_mul_of_nonneg_left h7 (by omega)
  unfold marV
  rw [Int.tdiv_eq_ediv_of_nonneg a1, Int.tdiv_eq_ediv_of_nonneg a2]
  generalize (a' + m' - (a + m)) * s = y at a4 a5
  generalize (a' + m') * s = x at a3 a4
  generalize (a + m) * s = u at a1 a4
  generalize (a' + m') * s' = z at a2 a3
  omega
section
variable {b : BxV} {p s e m w g t : Int}
theorem hot_in (r : BxR b) (st : StOk p s e m w g t) (hin : InB b p s e m w g t) {lo hi gr pk : Int} (h1 : 0 ≤ lo) (h2 : lo ≤ pk) (h3 : pk ≤ hi) (h4 : hi ≤ 1000000) (h5 : 0 ≤ gr) (h6 : gr ≤ 1000000) :
    BxR (hotB lo hi gr b) ∧ InB (hotB lo hi gr b) (p + (e + m) - capV pk (p + (e + m))) (s + capV pk (p + (e + m))) 0 0 0 (if s + capV pk (p + (e + m)) > 0 then capV (g + gr) 100000 else g) 0 := by
  obtain ⟨sp, sa, sb, sm, sw, sg, stt, ssum⟩ := st
  obtain ⟨ip, is, ie, im, iw, ig, it⟩ := hin
  obtain ⟨rp, rs, re, rm, rw_, rg, rt⟩ := r
  have hE : posV (whV (b.pl + b.bl + b.ml) - hi) ≤ p + (e + m) - capV pk (p + (e + m)) ∧ p + (e + m) - capV pk (p + (e + m)) ≤ posV (whV (b.ph + b.bh + b.mh) - lo) ∧ posV (whV (b.ph + b.bh + b.mh) - lo) ≤ 1000000 ∧ 0 ≤ posV (whV (b.pl + b.bl + b.ml) - hi) := by
    unfold posV whV capV; omega
  have hF : s + capV pk (p + (e + m)) = 1000000 - (p + (e + m) - capV pk (p + (e + m))) := by omega
  unfold hotB
  generalize posV (whV (b.pl + b.bl + b.ml) - hi) = PL at hE
  generalize posV (whV (b.ph + b.bh + b.mh) - lo) = PH at hE
  rw [hF]
  generalize p + (e + m) - capV pk (p + (e + m)) = P at hE
  constructor
  · constructor <;> (try (constructor <;> dsimp only <;> omega))
    · dsimp only [grV]; omega
  · constructor <;> (try (constructor <;> dsimp only <;> omega))
    · dsimp only [grV, capV]; omega
theorem cool_in (r : BxR b) (st : StOk p s e m w g t) (hin : InB b p s e m w g t) {wlo whi rlo rhi pw pr : Int} (h1 : 0 ≤ wlo) (h2 : wlo ≤ pw) (h3 : pw ≤ whi) (h4 : whi ≤ 1000000) (g1 : 0 ≤ rlo) (g2 : rlo ≤ pr) (g3 : pr ≤ rhi) (g4 : rhi ≤ 1000000) :
    BxR (coolB wlo whi rlo rhi b) ∧ (capV (w + pw) 1000000 = 1000000 → InB (coolB wlo whi rlo rhi b) p (s - capV pr s) (e + capV pr s) m (capV (w + pw) 1000000) g t) ∧
      (capV (w + pw) 1000000 ≠ 1000000 → InB (coolB wlo whi rlo rhi b) p s e m (capV (w + pw) 1000000) g t) := by
  obtain ⟨sp, sa, sb, sm, sw, sg, stt, ssum⟩ := st
  obtain ⟨ip, is, ie, im, iw, ig, it⟩ := hin
  obtain ⟨rp, rs, re, rm, rw_, rg, rt⟩ := r
  have hW : whV (b.wl + wlo) ≤ capV (w + pw) 1000000 ∧ capV (w + pw) 1000000 ≤ whV (b.wh + whi) ∧ whV (b.wh + whi) ≤ 1000000 ∧ 0 ≤ whV (b.wl + wlo) := by
    unfold whV capV; omega
  unfold coolB
  generalize whV (b.wl + wlo) = WL at hW
  generalize whV (b.wh + whi) = WH at hW
  generalize capV (w + pw) 1000000 = W at hW
  refine ⟨?_, fun hw => ?_, fun hw => ?_⟩
  · constructor <;> dsimp only [posV, minV, whV] <;> omega
  · constructor <;> dsimp only [posV, minV, whV, capV] <;> omega
  · constructor <;> dsimp only [posV, minV, whV, capV] <;> omega
theorem cold_in (r : BxR b) (st : StOk p s e m w g t) (hin : InB b p s e m w g t) {slo shi ps : Int} (h1 : 0 ≤ slo) (h2 : slo ≤ ps) (h3 : ps ≤ shi) (h4 : shi ≤ 1000000) :
    BxR (coldB slo shi b) ∧ InB (coldB slo shi b) p (s - (marV s m ps - m)) e (marV s m ps) w g t := by
  obtain ⟨sp, sa, sb, sm, sw, sg, stt, ssum⟩ := st
  obtain ⟨ip, is, ie, im, iw, ig, it⟩ := hin
  obtain ⟨rp, rs, re, rm, rw_, rg, rt⟩ := r
  have m1 := mar_le (a := b.al) (m := b.ml) (s := slo) (a' := s) (m' := m) (s' := ps) (by omega) (by omega) (by omega) (by omega) h1 h2
  have m2 := mar_le (a := s) (m := m) (s := ps) (a' := b.ah) (m' := b.mh) (s' := shi) (by omega) (by omega) (by omega) (by omega) (by omega) h3
  have l1 := left_le (a := b.al) (m := b.ml) (s := shi) (a' := s) (m' := m) (s' := ps) (by omega) (by omega) (by omega) (by omega) (by omega) h3 h4
  have l2 := left_le (a := s) (m := m) (s := ps) (a' := b.ah) (m' := b.mh) (s' := slo) (by omega) (by omega) (by omega) (by omega) h1 h2 (by omega)
  obtain ⟨c1, c2, _, _⟩ := mar_bounds sa.1 sm.1 (show s + m ≤ 2000000 by omega) (show 0 ≤ ps by omega) (by omega)
  obtain ⟨d1, d2, _, _⟩ := mar_bounds (a := b.al) (m := b.ml) (sh := shi) (by omega) (by omega) (by omega) (by omega) (by omega)
  obtain ⟨f1, f2, _, _⟩ := mar_bounds (a := b.al) (m := b.ml) (sh := slo) (by omega) (by omega) (by omega) (by omega) (by omega)
  obtain ⟨k1, k2, _, _⟩ := mar_bounds (a := b.ah) (m := b.mh) (sh := slo) (by omega) (by omega) (by omega) (by omega) (by omega)
  unfold coldB
  constructor
  · constructor <;> dsimp only [whV] <;> omega
  · constructor <;> dsimp only [whV] <;> omega
theorem tem_in (r : BxR b) (st : StOk p s e m w g t) (hin : InB b p s e m w g t) {tk : Option (Int × Int)} (ht : ∀ y, tk = some y → 0 ≤ y.2 ∧ y.2 ≤ 1000000) :
    BxR (temB tk b) ∧ InB (temB tk b) p s e m w g (temO tk t) := by
  cases tk with
  | none => exact ⟨r, hin⟩
  | some y =>
    have hy := ht y rfl
    obtain ⟨sp, sa, sb, sm, sw, sg, stt, ssum⟩ := st
    obtain ⟨ip, is, ie, im, iw, ig, it⟩ := hin
    obtain ⟨rp, rs, re, rm, rw_, rg, rt⟩ := r
    unfold temB
    constructor
    · constructor <;> dsimp only [whV] <;> omega
    · constructor <;> dsimp only [whV, temO, capV] <;> omega
theorem tail_in (r : BxR b) (st : StOk p s e m w g t) (hin : InB b p s e m w g t) {q : Option (Int × Int × Int)} {tk : Option (Int × Int)} {pq : Int} (hq : ∀ x, q = some x → 0 ≤ x.2.1 ∧ x.2.1 ≤ x.2.2 ∧ x.2.2 ≤ 1000000) (ht : ∀ y, tk = some y → 0 ≤ y.2 ∧ y.2 ≤ 1000000)
    (hp : 0 ≤ pq ∧ pq ≤ 1000) : BxR (temB tk (colB q b)) ∧ InT (temB tk (colB q b)) (tailV q tk pq p s e m w g t) := by
  have so := (tail_ok hq ht hp st).1
  cases q with
  | none =>
    have := tem_in r st hin ht
    refine ⟨this.1, ?_⟩
    have h2 := this.2
    show InB (temB tk b) p (s - (m - m)) e m w g (temO tk t)
    rw [show s - (m - m) = s by omega]
    exact h2
  | some x =>
    have hx := hq x rfl
    obtain ⟨b1, b2, _, _⟩ := pk_bounds hx.1 hx.2.1 hx.2.2 hp.1 hp.2
    have h1 := cold_in r st hin hx.1 b1 b2 hx.2.2
    have so2 : StOk p (s - (marV s m (pkV x.2.1 x.2.2 pq) - m)) e (marV s m (pkV x.2.1 x.2.2 pq)) w g t := by
      have := (tail_ok (tk := none) hq (fun y hy => by cases hy) hp st).1
      exact this
    exact tem_in h1.1 so2 h1.2 ht
end
section
variable {H : List (Int × Int × Int × Int)} {C : List (Int × Int × Int × Int × Int)} {Q : List (Int × Int × Int)} {T : List (Int × Int)}
/-- THE STEP OF A BOX HOLDS THE STEPS OF ITS STATES. -/
theorem box_in (ok : KnOk H C Q T) {b : BxV} {k ph pc pq p s e m w g t : Int} (hph : 0 ≤ ph ∧ ph ≤ 1000) (hpc : 0 ≤ pc ∧ pc ≤ 1000) (hpq : 0 ≤ pq ∧ pq ≤ 1000) (r : BxR b) (st : StOk p s e m w g t) (hin : InB b p s e m w g t) :
    BxR (boxV H C Q T k b) ∧ InT (boxV H C Q T k b) (stepV H C Q T k ph pc pq p s e m w g t) := by
  unfold boxV stepV
  cases hh : heatAt H k with
  | some x =>
    have hx := ok.kh x (lastP_mem hh).1
    obtain ⟨b1, b2, _, _⟩ := pk_bounds hx.1.1 hx.1.2.1 hx.1.2.2 hph.1 hph.2
    exact hot_in r st hin hx.1.1 b1 b2 hx.1.2.2 hx.2.1 hx.2.2
  | none =>
    have hq : ∀ x, coldAt Q k = some x → 0 ≤ x.2.1 ∧ x.2.1 ≤ x.2.2 ∧ x.2.2 ≤ 1000000 := fun x hx => ok.kq x (List.mem_of_find?_eq_some hx)
    have ht : ∀ y, tempAt T k = some y → 0 ≤ y.2 ∧ y.2 ≤ 1000000 := fun y hy => ok.kt y (lastP_mem hy).1
    cases hc : coolAt C k with
    | none => exact tail_in r st hin hq ht hpq
    | some x =>
      have hx := ok.kc x (List.mem_of_find?_eq_some hc)
      obtain ⟨b1, b2, _, _⟩ := pk_bounds hx.1.1 hx.1.2.1 hx.1.2.2 hpc.1 hpc.2
      obtain ⟨b3, b4, _, _⟩ := pk_bounds hx.2.1 hx.2.2.1 hx.2.2.2 hpc.1 hpc.2
      obtain ⟨c1, c2, c3⟩ := cool_in r st hin hx.1.1 b1 b2 hx.1.2.2 hx.2.1 b3 b4 hx.2.2.2
      obtain ⟨sp, sa, sb, sm, sw, sg, stt, ssum⟩ := st
      have hf : 0 ≤ capV (pkV x.2.2.2.1 x.2.2.2.2 pc) s ∧ capV (pkV x.2.2.2.1 x.2.2.2.2 pc) s ≤ s := by unfold capV; split <;> omega
      have hw : 0 ≤ capV (w + pkV x.2.1 x.2.2.1 pc) 1000000 ∧ capV (w + pkV x.2.1 x.2.2.1 pc) 1000000 ≤ 1000000 := by unfold capV; split <;> omega
      show BxR (temB (tempAt T k) (colB (coldAt Q k) (coolB x.2.1 x.2.2.1 x.2.2.2.1 x.2.2.2.2 b))) ∧ InT (temB (tempAt T k) (colB (coldAt Q k) (coolB x.2.1 x.2.2.1 x.2.2.2.1 x.2.2.2.2 b))) (coldV (some x) (coldAt Q k) (tempAt T k) pc pq p s e m w g t)
      have ec : coldV (some x) (coldAt Q k) (tempAt T k) pc pq p s e m w g t = if capV (w + pkV x.2.1 x.2.2.1 pc) 1000000 = 1000000 then
        tailV (coldAt Q k) (tempAt T k) pq p (s - capV (pkV x.2.2.2.1 x.2.2.2.2 pc) s) (e + capV (pkV x.2.2.2.1 x.2.2.2.2 pc) s) m (capV (w + pkV x.2.1 x.2.2.1 pc) 1000000) g t
        else tailV (coldAt Q k) (tempAt T k) pq p s e m (capV (w + pkV x.2.1 x.2.2.1 pc) 1000000) g t := rfl
      rw [ec]
      by_cases hcap : capV (w + pkV x.2.1 x.2.2.1 pc) 1000000 = 1000000
      · rw [if_pos hcap]
        exact tail_in c1 ⟨sp, ⟨by omega, by omega⟩, ⟨by omega, by omega⟩, sm, hw, sg, stt, by omega⟩ (c2 hcap) hq ht hpq
      · rw [if_neg hcap]
        exact tail_in c1 ⟨sp, sa, sb, sm, hw, sg, stt, ssum⟩ (c3 hcap) hq ht hpq
/-- a box that holds a state -/
def BI (b : BxV) : Prop := BxR b ∧ ∃ p s e m w g t, StOk p s e m w g t ∧ InB b p s e m w g t
theorem BI.step (ok : KnOk H C Q T) {b : BxV} (h : BI b) (k : Int) : BI (boxV H C Q T k b) := by
  obtain ⟨r, p, s, e, m, w, g, t, st, hin⟩ := h
  have z : (0 : Int) ≤ 0 ∧ (0 : Int) ≤ 1000 := by decide
  have h1 := box_in ok (k := k) z z z r st hin
  exact ⟨h1.1, _, _, _, _, _, _, _, (step_ok ok z z z st).1, h1.2⟩
theorem BI.hull {a b : BxV} (h : BI a) (k : BI b) : BI (hullB a b) := by
  obtain ⟨r, p, s, e, m, w, g, t, st, hin⟩ := h
  obtain ⟨r2, -⟩ := k
  refine ⟨?_, p, s, e, m, w, g, t, st, ?_⟩
  · obtain ⟨rp, rs, re, rm, rw_, rg, rt⟩ := r
    obtain ⟨qp, qs, qe, qm, qw, qg, qt⟩ := r2
    constructor <;> dsimp only [hullB, minV, maxV] <;> omega
  · obtain ⟨ip, is, ie, im, iw, ig, it⟩ := hin
    constructor <;> dsimp only [hullB, minV, maxV] <;> omega
theorem BI.rng {f : Int → BxV} (hf : ∀ i, BI (f i)) : ∀ (n : Nat) (i : Int) (out : BxV), BI out → BI (rngB f n i out)
  | 0, _, _, h => h
  | n + 1, i, out, h => BI.rng hf n (i + 1) _ (h.hull (hf i))
/-- the step of a box with a range of temperatures -/
def rangeV (H : List (Int × Int × Int × Int)) (C : List (Int × Int × Int × Int × Int)) (Q : List (Int × Int × Int)) (T : List (Int × Int)) (lo hi : Int) (b : BxV) : BxV :=
  rngB (fun k => boxV H C Q T k b) (hi - lo).toNat (lo + 1) (boxV H C Q T lo b)
theorem BI.range (ok : KnOk H C Q T) {b : BxV} (h : BI b) (lo hi : Int) : BI (rangeV H C Q T lo hi b) := BI.rng (fun i => h.step ok i) _ _ _ (h.step ok lo)
/-- the hardness of a box: what is left is given to the shares in an order -/
def fillV (L d0 d1 d2 d3 h0 h1 h2 h3 S : Int) : Int :=
  S + capV d0 L * h0 + capV d1 (L - capV d0 L) * h1 + capV d2 (L - capV d0 L - capV d1 (L - capV d0 L)) * h2 + capV d3 (L - capV d0 L - capV d1 (L - capV d0 L) - capV d2 (L - capV d0 L - capV d1 (L - capV d0 L))) * h3
end
end Go.Proofs.YtfkmbdfajpdjjaaGreatDoor

/- Field: powers of a solution; watts; depths; Euclid's loop (plain). -/
import Derived.Test.YtagnplbfdaifkaaFieldD
set_option linter.unusedVariables false
set_option linter.unusedSimpArgs false
namespace Go.Proofs.Ytagnplbfdaifkaa
open Go.Abs

/-- the square of a complex number's size -/
def nrm (v : Int × Int) : Int := v.1 * v.1 + v.2 * v.2
/-- the voltage at the front, the current at the front -/
def hV (cs xs : List Int) : Int × Int := (solV cs xs).1.headD (1, 0)
def hI (cs xs : List Int) : Int × Int := (solV cs xs).2.headD (0, 0)
def powV : List Int → List Int → List Int
  | c :: cs, x :: xs => c * nrm (hV cs xs) :: powV cs xs
  | _, _ => []
theorem hI_cons (c x : Int) (cs xs : List Int) : hI (c :: cs) (x :: xs) = curV c (hV cs xs) (hI cs xs) := rfl
theorem hV_cons (c x : Int) (cs xs : List Int) : hV (c :: cs) (x :: xs) = volV x (hV cs xs) (curV c (hV cs xs) (hI cs xs)) := rfl
theorem powV_len : ∀ (cs xs : List Int), xs.length = cs.length → (powV cs xs).length = cs.length
  | [], [], _ => rfl
  | c :: cs, x :: xs, h => by simp [powV, powV_len cs xs (by simpa using h)]
  | [], _ :: _, h => by simp at h
  | _ :: _, [], h => by simp at h
theorem sqI (a : Int) : 0 ≤ a * a := by
  rcases Int.le_total 0 a with h | h
  · exact Int.mul_nonneg h h
  · exact Int.mul_nonneg_of_nonpos_of_nonpos h h
theorem nrm_nn (v : Int × Int) : 0 ≤ nrm v := by
  have h1 := sqI v.1
  have h2 := sqI v.2
  unfold nrm; omega
/-- the sum of all powers is the real part of the voltage times the conjugate of the current -/
theorem pow_sum : ∀ {cs xs : List Int}, xs.length = cs.length → (powV cs xs).sum = (hV cs xs).1 * (hI cs xs).1 + (hV cs xs).2 * (hI cs xs).2
  | [], [], _ => rfl
  | c :: cs, x :: xs, h => by
    have ih := pow_sum (cs := cs) (xs := xs) (by simpa using h)
    simp only [powV, List.sum_cons, ih, hI_cons, hV_cons, nrm, curV, volV]
    grind
  | [], _ :: _, h => by simp at h
  | _ :: _, [], h => by simp at h
theorem step_nrm (x : Int) (c : Int) (v i : Int × Int) : nrm (volV x v (curV c v i)) = nrm v + (x * x) * nrm (curV c v i) - (2 * x) * (v.1 * i.2 - v.2 * i.1) := by
  simp only [nrm, curV, volV]; grind
theorem step_crs (x : Int) (c : Int) (v i : Int × Int) : (volV x v (curV c v i)).1 * (curV c v i).2 - (volV x v (curV c v i)).2 * (curV c v i).1 = (v.1 * i.2 - v.2 * i.1) - x * nrm (curV c v i) := by
  simp only [nrm, curV, volV]; grind
theorem crs_le : ∀ {cs xs : List Int}, Lad cs xs → (hV cs xs).1 * (hI cs xs).2 - (hV cs xs).2 * (hI cs xs).1 ≤ 0
  | [], [], _ => by decide
  | c :: cs, x :: xs, h => by
    have ih := crs_le h.tail
    have hx := h.x x (List.mem_cons_self ..)
    rw [hI_cons, hV_cons, step_crs]
    have := Int.mul_nonneg (show 0 ≤ x by omega) (nrm_nn (curV c (hV cs xs) (hI cs xs)))
    omega
  | [], _ :: _, h => by have := h.len; simp at this
  | _ :: _, [], h => by have := h.len; simp at this
/-- voltages never grow inwards -/
theorem nrm_grow {c x : Int} {cs xs : List Int} (h : Lad (c :: cs) (x :: xs)) : nrm (hV cs xs) ≤ nrm (hV (c :: cs) (x :: xs)) := by
  have h1 := crs_le h.tail
  have hx := h.x x (List.mem_cons_self ..)
  rw [hV_cons, step_nrm]
  have e1 := Int.mul_nonneg (sqI x) (nrm_nn (curV c (hV cs xs) (hI cs xs)))
  have e2 := Int.mul_nonneg (show 0 ≤ 2 * x by omega) (show 0 ≤ -((hV cs xs).1 * (hI cs xs).2 - (hV cs xs).2 * (hI cs xs).1) by omega)
  rw [Int.mul_neg] at e2
  omega
theorem nrm_pos : ∀ {cs xs : List Int}, Lad cs xs → 1 ≤ nrm (hV cs xs)
  | [], [], _ => by decide
  | c :: cs, x :: xs, h => by
    have := nrm_pos h.tail
    have := nrm_grow h
    omega
  | [], _ :: _, h => by have := h.len; simp at this
  | _ :: _, [], h => by have := h.len; simp at this
theorem pow_pos : ∀ {cs xs : List Int}, Lad cs xs → ∀ p ∈ powV cs xs, 1 ≤ p
  | [], [], _ => by simp [powV]
  | c :: cs, x :: xs, h => by
    have ih := pow_pos h.tail
    have h1 := nrm_pos h.tail
    have hc := h.c c (List.mem_cons_self ..)
    intro p hp
    simp only [powV, List.mem_cons] at hp
    rcases hp with rfl | hp
    · have := Int.mul_le_mul hc.1 h1 (by omega) (by omega); omega
    · exact ih p hp
  | [], _ :: _, h => by have := h.len; simp at this
  | _ :: _, [], h => by have := h.len; simp at this
/-- sizes -/
theorem dotLe {a b : Int × Int} {A B : Int} (hA : 0 ≤ A) (hB : 0 ≤ B) (ha : nrm a ≤ A * A) (hb : nrm b ≤ B * B) : a.1 * b.1 + a.2 * b.2 ≤ A * B := by
  have e : (a.1 * b.1 + a.2 * b.2) * (a.1 * b.1 + a.2 * b.2) + (a.1 * b.2 - a.2 * b.1) * (a.1 * b.2 - a.2 * b.1) = nrm a * nrm b := by
    simp only [nrm]; grind
  have e1 : nrm a * nrm b ≤ (A * A) * (B * B) := Int.mul_le_mul ha hb (nrm_nn b) (sqI A)
  have e2 : (A * A) * (B * B) = (A * B) * (A * B) := by grind
  have e3 := sqI (a.1 * b.2 - a.2 * b.1)
  have h0 : 0 ≤ A * B := Int.mul_nonneg hA hB
  generalize a.1 * b.1 + a.2 * b.2 = d at *
  by_cases hd : d ≤ A * B
  · exact hd
  · have h1 : A * B + 1 ≤ d := by omega
    have := Int.mul_le_mul h1 h1 (by omega) (by omega)
    have h2 : (A * B + 1) * (A * B + 1) = (A * B) * (A * B) + 2 * (A * B) + 1 := by grind
    omega
theorem addLe {a b : Int × Int} {A B : Int} (hA : 0 ≤ A) (hB : 0 ≤ B) (ha : nrm a ≤ A * A) (hb : nrm b ≤ B * B) : nrm (a.1 + b.1, a.2 + b.2) ≤ (A + B) * (A + B) := by
  have h := dotLe hA hB ha hb
  have e : nrm (a.1 + b.1, a.2 + b.2) = nrm a + nrm b + 2 * (a.1 * b.1 + a.2 * b.2) := by simp only [nrm]; grind
  have e2 : (A + B) * (A + B) = A * A + B * B + 2 * (A * B) := by grind
  omega
theorem scaleLe {a : Int × Int} {c C A : Int} (hc : 0 ≤ c) (hC : c ≤ C) (ha : nrm a ≤ A * A) : nrm (c * a.1, c * a.2) ≤ (C * A) * (C * A) ∧ nrm (-(c * a.2), c * a.1) ≤ (C * A) * (C * A) := by
  have e : nrm (c * a.1, c * a.2) = (c * c) * nrm a := by simp only [nrm]; grind
  have e' : nrm (-(c * a.2), c * a.1) = (c * c) * nrm a := by simp only [nrm]; grind
  have h1 : c * c ≤ C * C := Int.mul_le_mul hC hC hc (by omega)
  have h2 := Int.mul_le_mul h1 ha (nrm_nn a) (sqI C)
  have h3 : (C * C) * (A * A) = (C * A) * (C * A) := by grind
  exact ⟨by omega, by omega⟩
theorem nrm_bd : ∀ {cs xs : List Int}, Lad cs xs → nrm (hV cs xs) ≤ (bV cs.length).1 * (bV cs.length).1 ∧ nrm (hI cs xs) ≤ (bV cs.length).2 * (bV cs.length).2
  | [], [], _ => by decide
  | c :: cs, x :: xs, h => by
    obtain ⟨h1, h2⟩ := nrm_bd h.tail
    have hc := h.c c (List.mem_cons_self ..)
    have hx := h.x x (List.mem_cons_self ..)
    have hp := bV_pos cs.length
    have e1 := addLe hp.2 (show 0 ≤ 4 * (bV cs.length).1 by omega) h2 (scaleLe (C := 4) (by omega) hc.2 h1).1
    have e2 := addLe (show 0 ≤ (bV cs.length).1 by omega) (show 0 ≤ 32 * ((bV cs.length).2 + 4 * (bV cs.length).1) by omega) h1 (scaleLe (c := x) (C := 32) (by omega) hx.2 e1).2
    refine ⟨?_, e1⟩
    rw [hV_cons, List.length_cons]
    simp only [volV, curV, bV]
    simp only [Int.sub_eq_add_neg]
    exact e2
  | [], _ :: _, h => by have := h.len; simp at this
  | _ :: _, [], h => by have := h.len; simp at this
/-- the sum of powers that so many shells have at most -/
def sB : Nat → Int
  | 0 => 0
  | n + 1 => 4 * ((bV n).1 * (bV n).1) + sB n
theorem sum_bd : ∀ {cs xs : List Int}, Lad cs xs → (powV cs xs).sum ≤ sB cs.length
  | [], [], _ => by decide
  | c :: cs, x :: xs, h => by
    have ih := sum_bd h.tail
    have h1 := (nrm_bd h.tail).1
    have hc := h.c c (List.mem_cons_self ..)
    have := Int.mul_le_mul hc.2 h1 (nrm_nn _) (by omega)
    simp only [powV, List.sum_cons, List.length_cons, sB]
    omega
  | [], _ :: _, h => by have := h.len; simp at this
  | _ :: _, [], h => by have := h.len; simp at this
theorem sB_le {n : Nat} (h : n ≤ 4) : sB n ≤ 19008000000000 := by
  match n, h with
  | 0, _ => decide
  | 1, _ => decide
  | 2, _ => decide
  | 3, _ => decide
  | 4, _ => decide
/-- watts of a total: differences of rounded shares -/
def wat (t all : Int) : Int → List Int → List Int
  | _, [] => []
  | s, p :: ps => (t * (s + p) / all - t * s / all) :: wat t all (s + p) ps
theorem wat_len (t all : Int) : ∀ (ps : List Int) (s : Int), (wat t all s ps).length = ps.length
  | [], _ => rfl
  | p :: ps, s => by simp [wat, wat_len t all ps]
theorem wat_sum (t all : Int) : ∀ (ps : List Int) (s : Int), (wat t all s ps).sum = t * (s + ps.sum) / all - t * s / all
  | [], s => by simp [wat]
  | p :: ps, s => by
    simp only [wat, List.sum_cons, wat_sum t all ps]
    rw [Int.add_assoc]; omega
theorem ediv_rng {t s all : Int} (ht : 0 ≤ t) (h0 : 0 ≤ s) (h1 : s ≤ all) (ha : 0 < all) : 0 ≤ t * s / all ∧ t * s / all ≤ t := by
  refine ⟨Int.ediv_nonneg (Int.mul_nonneg ht h0) (by omega), ?_⟩
  have : t * s ≤ t * all := Int.mul_le_mul_of_nonneg_left h1 ht
  have := Int.ediv_le_ediv ha this
  rwa [Int.mul_ediv_cancel t (by omega)] at this
theorem ediv_mono {t s p all : Int} (ht : 0 ≤ t) (hp : 0 ≤ p) (ha : 0 < all) : t * s / all ≤ t * (s + p) / all := by
  apply Int.ediv_le_ediv ha
  exact Int.mul_le_mul_of_nonneg_left (by omega) ht
theorem ediv_near {x y all : Int} (ha : 0 < all) : ((x + y) / all - x / all - 1) * all < y ∧ y < ((x + y) / all - x / all + 1) * all := by
  have h1 := Int.emod_add_mul_ediv (x + y) all
  have h2 := Int.emod_add_mul_ediv x all
  have h3 := Int.emod_nonneg (x + y) (show all ≠ 0 by omega)
  have h4 := Int.emod_nonneg x (show all ≠ 0 by omega)
  have h5 := Int.emod_lt_of_pos (x + y) ha
  have h6 := Int.emod_lt_of_pos x ha
  generalize (x + y) / all = a at *
  generalize x / all = b at *
  generalize (x + y) % all = c at *
  generalize x % all = d at *
  have e1 : (a - b - 1) * all = all * a - all * b - all := by grind
  have e2 : (a - b + 1) * all = all * a - all * b + all := by grind
  rw [e1, e2]
  constructor <;> omega
theorem wat_get {t all : Int} (ht : 0 ≤ t) (ha : 0 < all) : ∀ (ps : List Int) (s : Int), 0 ≤ s → (∀ p ∈ ps, 0 ≤ p) → s + ps.sum ≤ all → ∀ i, i < ps.length →
    (0 ≤ (wat t all s ps).getD i default ∧ (wat t all s ps).getD i default ≤ t) ∧ ((wat t all s ps).getD i default - 1) * all < t * ps.getD i default ∧ t * ps.getD i default < ((wat t all s ps).getD i default + 1) * all
  | [], _, _, _, _, i, hi => by simp at hi
  | p :: ps, s, hs, hp, hle, i, hi => by
    have hp0 := hp p (List.mem_cons_self ..)
    have hps : ∀ q ∈ ps, 0 ≤ q := fun q hq => hp q (List.mem_cons_of_mem _ hq)
    rw [List.sum_cons] at hle
    have hsum : 0 ≤ ps.sum := by
      clear hi hle hp
      induction ps with
      | nil => simp
      | cons q qs ih =>
        rw [List.sum_cons]
        have := hps q (List.mem_cons_self ..)
        have := ih (fun r hr => hps r (List.mem_cons_of_mem _ hr))
        omega
    cases i with
    | zero =>
      have e1 := ediv_rng ht (show 0 ≤ s + p by omega) (show s + p ≤ all by omega) ha
      have e2 := ediv_rng ht hs (show s ≤ all by omega) ha
      have e3 := ediv_mono (s := s) ht hp0 ha
      have e4 := ediv_near (x := t * s) (y := t * p) ha
      rw [← Int.mul_add] at e4
      simp only [wat, List.getD_cons_zero]
      exact ⟨⟨by omega, by omega⟩, e4.1, e4.2⟩
    | succ i =>
      have := wat_get ht ha ps (s + p) (by omega) hps (by omega) i (by simpa using hi)
      simpa only [wat, List.getD_cons_succ] using this
/-- the depth for a percentage -/
def dep (pc all : Int) : Int → List Int → Nat
  | _, [] => 0
  | s, p :: ps => if 100 * (s + p) ≥ pc * all then 1 else 1 + dep pc all (s + p) ps
theorem dep_le (pc all : Int) : ∀ (ps : List Int) (s : Int), dep pc all s ps ≤ ps.length
  | [], _ => by simp [dep]
  | p :: ps, s => by
    have := dep_le pc all ps (s + p)
    unfold dep
    split
    · simp
    · rw [List.length_cons]; omega
theorem dep_pos (pc all : Int) (ps : List Int) (s : Int) (h : 1 ≤ ps.length) : 1 ≤ dep pc all s ps := by
  cases ps with
  | nil => simp at h
  | cons p ps => unfold dep; split <;> omega
theorem dep_mono {pc pd all : Int} (ha : 0 ≤ all) (h : pc ≤ pd) : ∀ (ps : List Int) (s : Int), dep pc all s ps ≤ dep pd all s ps
  | [], _ => by simp [dep]
  | p :: ps, s => by
    have ih := dep_mono ha h ps (s + p)
    have : pc * all ≤ pd * all := Int.mul_le_mul_of_nonneg_right h ha
    unfold dep
    split
    · split <;> omega
    · split <;> omega
theorem dep_all {all : Int} : ∀ (ps : List Int) (s : Int), (∀ p ∈ ps, 1 ≤ p) → s + ps.sum = all → dep 100 all s ps = ps.length
  | [], _, _, _ => rfl
  | [p], s, hp, e => by
    unfold dep
    simp only [List.sum_cons, List.sum_nil] at e
    rw [if_pos (by omega)]; simp
  | p :: q :: ps, s, hp, e => by
    have h1 : ∀ r ∈ q :: ps, 1 ≤ r := fun r hr => hp r (List.mem_cons_of_mem _ hr)
    have ih := dep_all (all := all) (q :: ps) (s + p) h1 (by rw [List.sum_cons] at e; omega)
    have hs : ∀ l : List Int, (∀ r ∈ l, 1 ≤ r) → 0 ≤ l.sum := by
      intro l
      induction l with
      | nil => intro _; simp
      | cons a l ih => intro hl; rw [List.sum_cons]; have := hl a (List.mem_cons_self ..); have := ih (fun r hr => hl r (List.mem_cons_of_mem _ hr)); omega
    have hps := hs ps (fun r hr => h1 r (List.mem_cons_of_mem _ hr))
    have hq := h1 q (List.mem_cons_self ..)
    rw [List.sum_cons, List.sum_cons] at e
    unfold dep
    rw [if_neg (by omega), ih]
    simp only [List.length_cons]; omega
theorem tmod_abs (a b : Int) : (a.tmod b).natAbs = a.natAbs % b.natAbs := Int.natAbs_tmod a b
theorem gcd_step (a b : Int) : Int.gcd b (a.tmod b) = Int.gcd a b := by
  unfold Int.gcd
  rw [tmod_abs, Nat.gcd_comm a.natAbs, Nat.gcd_rec b.natAbs a.natAbs, Nat.gcd_comm]
theorem half_mod {a b : Nat} (hb : 0 < b) (h : b ≤ a) : 2 * (a % b) < a + 1 := by
  have h1 := Nat.mod_lt a hb
  have h2 := Nat.div_add_mod a b
  have h3 : 1 ≤ a / b := (Nat.le_div_iff_mul_le hb).2 (by omega)
  have h4 : b * 1 ≤ b * (a / b) := Nat.mul_le_mul_left b h3
  omega
/-- Euclid's loop -/
theorem euclid {ρ : Type} (B : Int × Int → Ctl (Int × Int) ρ) (fin : Int → Option ρ) (R : Int → Prop) (hR : ∀ a b, R a → R b → R (a.tmod b))
    (h0 : ∀ a, R a → B (a, 0) = .out (fin a)) (h1 : ∀ a b, R a → R b → b ≠ 0 → B (a, b) = .next (b, a.tmod b)) :
    ∀ (k : Nat) (a b : Int) (fuel : Nat), R a → R b → b.natAbs < 2 ^ k → 2 * k + 1 ≤ fuel → ∃ g, R g ∧ g.natAbs = Int.gcd a b ∧ iterC B fuel (a, b) = fin g
  | 0, a, b, fuel, ra, rb, hb, hf => by
    obtain ⟨m, rfl⟩ : ∃ m, fuel = m + 1 := ⟨fuel - 1, by omega⟩
    have : b = 0 := by simpa using hb
    subst this
    exact ⟨a, ra, by simp [Int.gcd], by simp only [iterC, h0 a ra]⟩
  | k + 1, a, b, fuel, ra, rb, hb, hf => by
    obtain ⟨m, rfl⟩ : ∃ m, fuel = m + 2 := ⟨fuel - 2, by omega⟩
    by_cases h : b = 0
    · subst h
      exact ⟨a, ra, by simp [Int.gcd], by simp only [iterC, h0 a ra]⟩
    · by_cases h2 : a.tmod b = 0
      · refine ⟨b, rb, ?_, by simp only [iterC, h1 a b ra rb h, h2, h0 b rb]⟩
        rw [← gcd_step, h2]; simp [Int.gcd]
      · have hr := hR a b ra rb
        have hs := hR b _ rb hr
        have hp : 0 < b.natAbs := Int.natAbs_pos.2 h
        have hq : 0 < (a.tmod b).natAbs := Int.natAbs_pos.2 h2
        have l1 : (a.tmod b).natAbs < b.natAbs := by rw [tmod_abs]; exact Nat.mod_lt _ hp
        have l2 : 2 * (b.tmod (a.tmod b)).natAbs < b.natAbs + 1 := by
          rw [tmod_abs b]
          exact half_mod hq (by omega)
        have hpow : (2 : Nat) ^ (k + 1) = 2 * 2 ^ k := by rw [Nat.pow_succ]; omega
        obtain ⟨g, e1, e2, e3⟩ := euclid B fin R hR h0 h1 k (a.tmod b) (b.tmod (a.tmod b)) m hr hs (by omega) (by omega)
        refine ⟨g, e1, by rw [e2, gcd_step, gcd_step], ?_⟩
        simp only [iterC, h1 a b ra rb h, h1 b _ rb hr h2]
        exact e3
def vV (cs xs : List Int) (k : Nat) : Int × Int := hV (cs.drop k) (xs.drop k)
def vI (cs xs : List Int) (k : Nat) : Int × Int := hI (cs.drop k) (xs.drop k)
theorem drop_getD {l : List Int} {k : Nat} (h : k < l.length) : l.drop k = l.getD k default :: l.drop (k + 1) := by
  rw [List.drop_eq_getElem_cons h, List.getD_eq_getElem?_getD, List.getElem?_eq_getElem h]; rfl
theorem vI_succ {cs xs : List Int} (h : xs.length = cs.length) {k : Nat} (hk : k < cs.length) : vI cs xs k = curV (cs.getD k default) (vV cs xs (k + 1)) (vI cs xs (k + 1)) := by
  unfold vI vV
  rw [drop_getD hk, drop_getD (show k < xs.length by omega), hI_cons]
theorem vV_succ {cs xs : List Int} (h : xs.length = cs.length) {k : Nat} (hk : k < cs.length) : vV cs xs k = volV (xs.getD k default) (vV cs xs (k + 1)) (vI cs xs k) := by
  rw [vI_succ h hk]
  unfold vI vV
  rw [drop_getD hk, drop_getD (show k < xs.length by omega), hV_cons]

theorem dropTake {α : Type} [Inhabited α] (l : List α) (i : Nat) (h : i < l.length - 1) : ((l.drop 1).take (l.length - 1)).getD i default = l.getD (i + 1) default := by
  simp only [List.getD_eq_getElem?_getD, List.getElem?_take, if_pos h, List.getElem?_drop, Nat.add_comm]
theorem solV_get : ∀ {cs xs : List Int}, xs.length = cs.length → ∀ k, k ≤ cs.length → (solV cs xs).1.getD k default = vV cs xs k
  | [], [], _, k, hk => by
    obtain rfl : k = 0 := by simpa using hk
    rfl
  | c :: cs, x :: xs, h, 0, _ => rfl
  | c :: cs, x :: xs, h, k + 1, hk => solV_get (cs := cs) (xs := xs) (by simpa using h) k (by simpa using hk)
  | [], _ :: _, h, _, _ => by simp at h
  | _ :: _, [], h, _, _ => by simp at h
theorem solI_get : ∀ {cs xs : List Int}, xs.length = cs.length → ∀ k, k < cs.length → (solV cs xs).2.getD k default = vI cs xs k
  | [], [], _, k, hk => by simp at hk
  | c :: cs, x :: xs, h, 0, _ => rfl
  | c :: cs, x :: xs, h, k + 1, hk => solI_get (cs := cs) (xs := xs) (by simpa using h) k (by simpa using hk)
  | [], _ :: _, h, _, _ => by simp at h
  | _ :: _, [], h, _, _ => by simp at h
theorem powV_get : ∀ {cs xs : List Int}, xs.length = cs.length → ∀ k, k < cs.length → (powV cs xs).getD k default = cs.getD k default * nrm (vV cs xs (k + 1))
  | [], [], _, k, hk => by simp at hk
  | c :: cs, x :: xs, h, 0, _ => rfl
  | c :: cs, x :: xs, h, k + 1, hk => powV_get (cs := cs) (xs := xs) (by simpa using h) k (by simpa using hk)
  | [], _ :: _, h, _, _ => by simp at h
  | _ :: _, [], h, _, _ => by simp at h
theorem wat_at (t all : Int) : ∀ (ps : List Int) (s : Int) (i : Nat), i < ps.length → (wat t all s ps).getD i default = t * (s + (ps.take (i + 1)).sum) / all - t * (s + (ps.take i).sum) / all
  | [], _, i, hi => by simp at hi
  | p :: ps, s, 0, _ => by simp [wat]
  | p :: ps, s, i + 1, hi => by
    have := wat_at t all ps (s + p) i (by simpa using hi)
    simp only [wat, List.getD_cons_succ, this, List.take_succ_cons, List.sum_cons]
    rw [Int.add_assoc, Int.add_assoc]
theorem sum_nn : ∀ (l : List Int), (∀ p ∈ l, 0 ≤ p) → 0 ≤ l.sum
  | [], _ => by simp
  | a :: l, h => by
    rw [List.sum_cons]
    have := h a (List.mem_cons_self ..)
    have := sum_nn l (fun r hr => h r (List.mem_cons_of_mem _ hr))
    omega
theorem pre_succ (l : List Int) (i : Nat) (h : i < l.length) : (l.take (i + 1)).sum = (l.take i).sum + l.getD i default := by
  rw [take_getD h, List.sum_append]; simp
theorem pre_rng (l : List Int) (h : ∀ p ∈ l, 0 ≤ p) (i : Nat) : 0 ≤ (l.take i).sum ∧ (l.take i).sum ≤ l.sum := by
  refine ⟨sum_nn _ (fun p hp => h p (List.mem_of_mem_take hp)), ?_⟩
  have e : l.sum = (l.take i).sum + (l.drop i).sum := by rw [← List.sum_append, List.take_append_drop]
  have := sum_nn _ (fun p hp => h p (List.mem_of_mem_drop (i := i) hp))
  omega
/-- a loop, as a function of its place -/
theorem iter_suf {σ ρ : Type} (n : Nat) (b : σ → Ctl σ ρ) (st : Nat → σ) (G : Nat → Option ρ) (hn : n < 1000000000)
    (step : ∀ i : Nat, i < n → (b (st i) = .next (st (i + 1)) ∧ G i = G (i + 1)) ∨ b (st i) = .out (G i)) (stop : b (st n) = .out (G n)) : iterC b 1000000000 (st 0) = G 0 := by
  have key : ∀ (k i fuel : Nat), i + k = n → k < fuel → iterC b fuel (st i) = G i := by
    intro k
    induction k with
    | zero =>
      intro i fuel hi hf
      obtain ⟨m, rfl⟩ : ∃ m, fuel = m + 1 := ⟨fuel - 1, by omega⟩
      obtain rfl : i = n := by omega
      simp [iterC, stop]
    | succ k ih =>
      intro i fuel hi hf
      obtain ⟨m, rfl⟩ : ∃ m, fuel = m + 1 := ⟨fuel - 1, by omega⟩
      rcases step i (by omega) with ⟨h1, h2⟩ | h1
      · simp only [iterC, h1]
        rw [h2]
        exact ih (i + 1) m (by omega) (by omega)
      · simp only [iterC, h1]
  exact key n 0 1000000000 (by omega) hn
end Go.Proofs.Ytagnplbfdaifkaa

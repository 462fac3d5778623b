/- Field: the voltages and the currents of a ladder, as a plain function; the code's and the reference's solutions are this one. -/
import Derived.Test.YtagnplbfdaifkaaFieldB
import Derived.Test.YtagnplbfdaifkaaF06
set_option linter.unusedVariables false
set_option linter.unusedSimpArgs false
namespace Go.Proofs.Ytagnplbfdaifkaa
open Go.Abs

/-- the current to a node, and the voltage before its reactance -/
def curV (c : Int) (v i : Int × Int) : Int × Int := (i.1 + c * v.1, i.2 + c * v.2)
def volV (x : Int) (v i : Int × Int) : Int × Int := (v.1 - x * i.2, v.2 + x * i.1)
/-- voltages (one more than shells) and currents -/
def solV : List Int → List Int → List (Int × Int) × List (Int × Int)
  | c :: cs, x :: xs =>
    let p := solV cs xs
    let v := p.1.headD (1, 0)
    let i := curV c v (p.2.headD (0, 0))
    (volV x v i :: p.1, i :: p.2)
  | _, _ => ([(1, 0)], [])
theorem solV_len : ∀ (cs xs : List Int), xs.length = cs.length → (solV cs xs).1.length = cs.length + 1 ∧ (solV cs xs).2.length = cs.length
  | [], [], _ => ⟨rfl, rfl⟩
  | c :: cs, x :: xs, h => by
    have := solV_len cs xs (by simpa using h)
    simp [solV, this.1, this.2]
  | [], _ :: _, h => by simp at h
  | _ :: _, [], h => by simp at h
/-- bounds of both parts -/
def Bd (b : Int) (p : Int × Int) : Prop := -b ≤ p.1 ∧ p.1 ≤ b ∧ -b ≤ p.2 ∧ p.2 ≤ b
def bV : Nat → Int × Int
  | 0 => (1, 0)
  | n + 1 => ((bV n).1 + 32 * ((bV n).2 + 4 * (bV n).1), (bV n).2 + 4 * (bV n).1)
theorem bV_pos : ∀ n, 1 ≤ (bV n).1 ∧ 0 ≤ (bV n).2
  | 0 => by decide
  | n + 1 => by have := bV_pos n; simp only [bV]; omega
theorem bV_le {n : Nat} (h : n ≤ 4) : (bV n).1 ≤ 283362561 ∧ (bV n).2 ≤ 8786960 := by
  match n, h with
  | 0, _ => decide
  | 1, _ => decide
  | 2, _ => decide
  | 3, _ => decide
  | 4, _ => decide
theorem mulB {c C v b : Int} (h0 : 0 ≤ c) (hc : c ≤ C) (h1 : -b ≤ v) (h2 : v ≤ b) : -(C * b) ≤ c * v ∧ c * v ≤ C * b := by
  have hb : 0 ≤ b := by omega
  have e1 : c * v ≤ c * b := Int.mul_le_mul_of_nonneg_left h2 h0
  have e2 : c * -b ≤ c * v := Int.mul_le_mul_of_nonneg_left h1 h0
  have e3 : c * b ≤ C * b := Int.mul_le_mul_of_nonneg_right hc hb
  rw [Int.mul_neg] at e2
  omega
theorem curV_bd {c bv bi : Int} {v i : Int × Int} (h : 0 ≤ c ∧ c ≤ 4) (hv : Bd bv v) (hi : Bd bi i) : Bd (bi + 4 * bv) (curV c v i) := by
  obtain ⟨v1, v2, v3, v4⟩ := hv
  obtain ⟨i1, i2, i3, i4⟩ := hi
  have e1 := mulB h.1 h.2 v1 v2
  have e2 := mulB h.1 h.2 v3 v4
  refine ⟨?_, ?_, ?_, ?_⟩ <;> simp only [curV] <;> omega
theorem volV_bd {x bv bi : Int} {v i : Int × Int} (h : 0 ≤ x ∧ x ≤ 32) (hv : Bd bv v) (hi : Bd bi i) : Bd (bv + 32 * bi) (volV x v i) := by
  obtain ⟨v1, v2, v3, v4⟩ := hv
  obtain ⟨i1, i2, i3, i4⟩ := hi
  have e1 := mulB h.1 h.2 i1 i2
  have e2 := mulB h.1 h.2 i3 i4
  refine ⟨?_, ?_, ?_, ?_⟩ <;> simp only [volV] <;> omega
/-- conductances and reactances as drives make them -/
structure Lad (cs xs : List Int) : Prop where
  len : xs.length = cs.length
  c : ∀ c ∈ cs, 1 ≤ c ∧ c ≤ 4
  x : ∀ x ∈ xs, 1 ≤ x ∧ x ≤ 32
theorem Lad.tail {c x : Int} {cs xs : List Int} (h : Lad (c :: cs) (x :: xs)) : Lad cs xs :=
  ⟨by simpa using h.len, fun y hy => h.c y (List.mem_cons_of_mem _ hy), fun y hy => h.x y (List.mem_cons_of_mem _ hy)⟩
theorem Lad.drop {cs xs : List Int} (h : Lad cs xs) (k : Nat) : Lad (cs.drop k) (xs.drop k) :=
  ⟨by simp [h.len], fun y hy => h.c y (List.mem_of_mem_drop hy), fun y hy => h.x y (List.mem_of_mem_drop hy)⟩
theorem solV_bd : ∀ {cs xs : List Int}, Lad cs xs → Bd (bV cs.length).1 ((solV cs xs).1.headD (1, 0)) ∧ Bd (bV cs.length).2 ((solV cs xs).2.headD (0, 0))
  | [], [], _ => ⟨⟨by decide, by decide, by decide, by decide⟩, ⟨by decide, by decide, by decide, by decide⟩⟩
  | c :: cs, x :: xs, h => by
    obtain ⟨h1, h2⟩ := solV_bd h.tail
    have hc := h.c c (List.mem_cons_self ..)
    have hx := h.x x (List.mem_cons_self ..)
    have e := curV_bd ⟨by omega, hc.2⟩ h1 h2
    exact ⟨volV_bd ⟨by omega, hx.2⟩ h1 e, e⟩
  | [], _ :: _, h => by have := h.len; simp at this
  | _ :: _, [], h => by have := h.len; simp at this
theorem wB {b a : Int} (hb : b ≤ 9223372036854775807) (h1 : -b ≤ a) (h2 : a ≤ b) : IntKind.i64.wrap a = a := wI (by omega) (by omega)

theorem p86 (a b n : Int) : r86 a b n = some (IntKind.i64.wrap (n * a), IntKind.i64.wrap (n * b)) := rfl
/-- one node, in the code -/
theorem p116 {cs xs : List Int} {k : Nat} (hk : k < cs.length) (hx : k < xs.length) {v i : Int × Int} (hc : 1 ≤ cs.getD k default ∧ cs.getD k default ≤ 4) (hxx : 1 ≤ xs.getD k default ∧ xs.getD k default ≤ 32) (hv : Bd 2179841 v) (hi : Bd 67596 i) :
    r116 cs xs k v.1 v.2 i.1 i.2 = some ((curV (cs.getD k default) v i).1, (curV (cs.getD k default) v i).2, (volV (xs.getD k default) v (curV (cs.getD k default) v i)).1, (volV (xs.getD k default) v (curV (cs.getD k default) v i)).2) := by
  obtain ⟨v1, v2, v3, v4⟩ := hv
  obtain ⟨i1, i2, i3, i4⟩ := hi
  have e1 := mulB (by omega) hc.2 v1 v2
  have e2 := mulB (by omega) hc.2 v3 v4
  obtain ⟨g1, g2, g3, g4⟩ := curV_bd (c := cs.getD k default) ⟨by omega, hc.2⟩ ⟨v1, v2, v3, v4⟩ ⟨i1, i2, i3, i4⟩
  have e3 := mulB (by omega) hxx.2 g1 g2
  have e4 := mulB (by omega) hxx.2 g3 g4
  unfold r116
  rw [if_pos (rgN hk)]
  simp only [Int.toNat_natCast, r86, r89, r90, Option.bind_some, if_pos (rgN hx)]
  generalize hcc : cs.getD k default = c at *
  generalize hxv : xs.getD k default = x at *
  simp only [curV, volV] at *
  rw [wI (a := c * v.1) (by omega) (by omega), wI (a := c * v.2) (by omega) (by omega), wI (a := i.1 + c * v.1) (by omega) (by omega), wI (a := i.2 + c * v.2) (by omega) (by omega), wI (a := 0 - x) (by omega) (by omega),
    wI (a := x * (i.1 + c * v.1)) (by omega) (by omega)]
  have e5 : (0 - x) * (i.2 + c * v.2) = -(x * (i.2 + c * v.2)) := by rw [Int.zero_sub, Int.neg_mul]
  rw [e5, wI (a := -(x * (i.2 + c * v.2))) (by omega) (by omega), wI (a := v.1 + -(x * (i.2 + c * v.2))) (by omega) (by omega), wI (a := v.2 + x * (i.1 + c * v.1)) (by omega) (by omega)]
  rfl
end Go.Proofs.Ytagnplbfdaifkaa

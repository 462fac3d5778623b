/-
  How the relations pass from one world, and one state of the labels, to another.
-/
import Derived.Test.YtcbiiijnaeibhaaAbsRel
set_option linter.unusedVariables false
set_option linter.unusedSimpArgs false
namespace Go.Abs

theorem D.eta {x : D} (h : x.isSl = true) : x = .sl x.stride x.len x.nth := by
  cases x <;> first | rfl | (simp [D.isSl] at h)

/-- The block keeps its kind and size. -/
def SizeKept (w w' : World) (B : Nat) : Prop :=
  ∀ c T, w.heap[B]? = some (.cells c T (0, 0)) → ∃ c', w'.heap[B]? = some (.cells c' T (0, 0)) ∧ c'.size = c.size

theorem SizeKept.of_eq {w w' : World} {B : Nat} (h : w'.heap[B]? = w.heap[B]?) : SizeKept w w' B := fun c T hc => ⟨c, by rw [h]; exact hc, rfl⟩

def LabOk (cx : Cx) (m : Mp) (w : World) (lb : Nat → Option Lab) (m' : Mp) (w' : World) (lb' : Nat → Option Lab) (k : Nat) : Prop :=
  match lb k with
  | none => True
  | some .dead => lb' k = some .dead
  | some (.shared x) => lb' k = some .dead ∨ lb' k = some (.shared x)
  | some (.owned x) => lb' k = some .dead ∨
      (∃ x', lb' k = some (.owned x') ∧ x'.len = x.len ∧ x'.stride = x.stride ∧ m'.own k = m.own k ∧ ∀ B, m.own k = some B → SizeKept w w' B) ∨
      (lb' k = some (.shared x) ∧ x.isSl = true ∧ ∀ B, m.own k = some B → Row w' (Sof cx m') B x ∧ Sof cx m' B ∧ B < w'.heap.size)

structure Move (cx : Cx) (m : Mp) (w : World) (lb : Nat → Option Lab) (m' : Mp) (w' : World) (lb' : Nat → Option Lab) : Prop where
  ext : Ext w w' (Sof cx m) (Sof cx m')
  box : ∀ b B, m.box b = some B → m'.box b = some B
  lab : ∀ k, LabOk cx m w lb m' w' lb' k

theorem row_ptr {w : World} {S : Nat → Prop} {B : Nat} {x : D} (hr : Row w S B x) (hS : S B) (hB : B < w.heap.size) {i : Nat} (hi : i < x.len) (off : Nat) :
    Ptr w S (x.nth i) off (.pointer (some ⟨B, i * x.stride + off, none⟩)) := by
  obtain ⟨c, T, hc, hs, hx⟩ := hr
  refine ⟨B, i * x.stride, rfl, hB, hS, fun j hj => ?_⟩
  rw [(hx i hi).1] at hj
  obtain ⟨u, hu, hd⟩ := (hx i hi).2 j hj
  exact ⟨u, by simp [World.cell?, hc, hu], hd⟩

theorem row_rd {w : World} {S : Nat → Prop} {B : Nat} {x : D} (hr : Row w S B x) (hS : S B) (hB : B < w.heap.size) {cap : Nat} (hle : x.len ≤ cap) :
    RD w S x (.slice (some ⟨B, 0, none⟩) x.len cap) := by
  obtain ⟨c, T, hc, hs, hx⟩ := hr
  by_cases hn : x.len = 0
  · have he := D.eta hs
    generalize x.stride = s at he; generalize x.nth = g at he
    rw [hn] at he ⊢
    rw [he]; exact .sl0 _ _ _ _
  · have he := D.eta hs
    suffices h : RD w S (.sl x.stride x.len x.nth) (.slice (some ⟨B, 0, none⟩) x.len cap) by rw [← he] at h; exact h
    refine .sl _ _ _ B 0 cap (fun i j => c.getD (i * x.stride + j) undef) (Nat.pos_of_ne_zero hn) hle hB hS (fun i hi => (hx i hi).1) (fun i j hi hj => ?_) (fun i j hi hj => ?_)
    · obtain ⟨u, hu, _⟩ := (hx i hi).2 j hj
      simp [World.cell?, hc, Array.getD_eq_getD_getElem?, hu]
    · obtain ⟨u, hu, hd⟩ := (hx i hi).2 j hj
      simpa [Array.getD_eq_getD_getElem?, hu] using hd

theorem rd_sl_one {w : World} {S : Nat → Prop} {x : D} {v : Value} (hs : x.isSl = true) (h : RD w S x v) : One v := by
  cases h <;> first | exact ⟨rfl, rfl⟩ | simp [D.isSl] at hs
theorem RD.one {w : World} {S : Nat → Prop} {x : D} {v : Value} (h : RD w S x v) : One v := by
  cases h <;> first | exact ⟨rfl, rfl⟩ | assumption
theorem hdl_one {w : World} {o : Option Nat} {x : D} {v : Value} (h : Hdl w o x v) : One v := by
  unfold Hdl at h
  split at h
  · obtain ⟨rfl, _⟩ := h; exact ⟨rfl, rfl⟩
  · obtain ⟨_, _, _, rfl, _⟩ := h; exact ⟨rfl, rfl⟩

variable {cx : Cx} {m m' : Mp} {w w' : World} {lb lb' : Nat → Option Lab}

theorem RCap.move (h : Move cx m w lb m' w' lb') {x : Cap} {v : Value} (hx : RCap cx m w x v) : RCap cx m' w' x v := by
  cases x with
  | ref b off => obtain ⟨B, hb, rfl⟩ := hx; exact ⟨B, h.box b B hb, rfl⟩
  | sptr l off => exact Ptr.ext h.ext hx

theorem RCl.move (h : Move cx m w lb m' w' lb') {x : AC} {v : Value} (hx : RCl cx m w lb x v) : RCl cx m' w' lb' x v := by
  cases x with
  | undef => trivial
  | d x => exact RD.ext h.ext hx
  | nils => exact hx
  | own k =>
    have hk := h.lab k
    simp only [RCl, LabOk] at *
    cases hl : lb k with
    | none => simp [hl] at hx
    | some L =>
      cases L with
      | dead => simp only [hl] at hk hx; simp [hk, hx]
      | shared y =>
        simp only [hl] at hk hx
        rcases hk with hk | hk <;> simp only [hk]
        · exact rd_sl_one hx.1 hx.2
        · exact ⟨hx.1, hx.2.ext h.ext⟩
      | owned y =>
        simp only [hl] at hk hx
        rcases hk with hk | ⟨x', hk, e1, e2, e3, hs⟩ | ⟨hk, hsl, hr⟩
        · simp only [hk]; exact hdl_one hx
        · simp only [hk, e3]
          cases ho : m.own k with
          | none => simp only [ho, Hdl] at hx ⊢; exact ⟨hx.1, by rw [e1]; exact hx.2⟩
          | some B =>
            simp only [ho, Hdl] at hx ⊢
            obtain ⟨cap, c, T, rfl, hc, hsz, hle⟩ := hx
            obtain ⟨c', hc', hsz'⟩ := hs B ho c T hc
            exact ⟨cap, c', T, by rw [e1], hc', by rw [hsz', hsz, e2], by rw [e1]; exact hle⟩
        · simp only [hk]
          refine ⟨hsl, ?_⟩
          cases ho : m.own k with
          | none =>
            simp only [ho, Hdl] at hx
            obtain ⟨rfl, hn⟩ := hx
            rw [D.eta hsl, hn]; exact .sl0 _ _ _ _
          | some B =>
            simp only [ho, Hdl] at hx
            obtain ⟨cap, c, T, rfl, _, _, hle⟩ := hx
            exact row_rd (hr B ho).1 (hr B ho).2.1 (hr B ho).2.2 hle
  | ref b off => obtain ⟨B, hb, rfl⟩ := hx; exact ⟨B, h.box b B hb, rfl⟩
  | optr k i off =>
    have hk := h.lab k
    simp only [RCl, LabOk] at *
    cases hl : lb k with
    | none => simp [hl] at hx
    | some L =>
      cases L with
      | dead => simp only [hl] at hk hx; simp [hk, hx]
      | shared y =>
        simp only [hl] at hk hx
        rcases hk with hk | hk <;> simp only [hk]
        · obtain ⟨_, _, B, o, rfl, _⟩ := hx; exact ⟨rfl, rfl⟩
        · exact ⟨hx.1, hx.2.1, hx.2.2.ext h.ext⟩
      | owned y =>
        simp only [hl] at hk hx
        obtain ⟨hi, B, ho, rfl⟩ := hx
        rcases hk with hk | ⟨x', hk, e1, e2, e3, hs⟩ | ⟨hk, hsl, hr⟩
        · simp only [hk]; exact ⟨rfl, rfl⟩
        · simp only [hk, e3]
          exact ⟨by rw [e1]; exact hi, B, ho, by rw [e2]⟩
        · simp only [hk]
          obtain ⟨hrow, hS, hB⟩ := hr B ho
          refine ⟨hi, ?_, row_ptr hrow hS hB hi off⟩
          obtain ⟨c, T, hc, hs, hx⟩ := hrow
          exact (hx i hi).1
  | sptr l off => exact Ptr.ext h.ext hx
  | clo f caps =>
    obtain ⟨vs, rfl, hsz, hc⟩ := hx
    refine ⟨vs, rfl, hsz, fun i hi => ?_⟩
    obtain ⟨u, hu, hr⟩ := hc i hi
    exact ⟨u, hu, hr.move h⟩

theorem RU.move (h : Move cx m w lb m' w' lb') {x : AU} {v : Value} (hx : RU cx m w lb x v) : RU cx m' w' lb' x v := by
  cases x with
  | c x => exact RCl.move h hx
  | agg l =>
    obtain ⟨vs, rfl, hsz, hc⟩ := hx
    refine ⟨vs, rfl, hsz, fun i hi => ?_⟩
    obtain ⟨u, hu, hr⟩ := hc i hi
    exact ⟨u, hu, RCl.move h hr⟩

theorem RA.move (h : Move cx m w lb m' w' lb') {x : AV} {v : Value} (hx : RA cx m w lb x v) : RA cx m' w' lb' x v := by
  cases x with
  | u x => exact RU.move h hx
  | tup l =>
    obtain ⟨vs, rfl, hsz, hc⟩ := hx
    refine ⟨vs, rfl, hsz, fun i hi => ?_⟩
    obtain ⟨u, hu, hr⟩ := hc i hi
    exact ⟨u, hu, RU.move h hr⟩
  | cnd b x => exact ⟨fun hb => RU.move h (hx.1 hb), hx.2⟩

end Go.Abs

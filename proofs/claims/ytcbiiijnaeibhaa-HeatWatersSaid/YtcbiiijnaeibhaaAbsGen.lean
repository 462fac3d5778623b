/-
  What the decompiler's texts use: loops as functions, lists in cells.
-/
import Derived.Test.YtcbiiijnaeibhaaAbsEnc
import Derived.IntWalk
set_option linter.unusedVariables false
set_option linter.unusedSimpArgs false
namespace Go.Abs

/-- what a loop's round comes to: the next round's state, or the loop's end -/
inductive Ctl (σ ρ : Type) where
  | next (s : σ)
  | out (r : Option ρ)
def iterC {σ ρ : Type} (B : σ → Ctl σ ρ) : Nat → σ → Option ρ
  | 0, _ => none
  | n + 1, s => match B s with
    | .next s' => iterC B n s'
    | .out r => r
def goodC {σ ρ : Type} (nx : σ → Prop) (G : ρ → Prop) : Ctl σ ρ → Prop
  | .next s => nx s
  | .out (some q) => G q
  | .out none => False
def bindC {α σ ρ : Type} (o : Option α) (f : α → Ctl σ ρ) : Ctl σ ρ :=
  match o with
  | none => .out none
  | some v => f v

section
variable {α σ ρ : Type} {nx : σ → Prop} {G : ρ → Prop}
theorem of_guard0 {p : Prop} [Decidable p] {a : Option ρ} {r : ρ} (h : (if p then a else none) = some r) : p ∧ a = some r := by
  split at h
  · exact ⟨‹_›, h⟩
  · cases h
theorem of_bind0 {o : Option α} {f : α → Option ρ} {r : ρ} (h : o.bind f = some r) : ∃ v, o = some v ∧ f v = some r := by
  cases o with
  | none => cases h
  | some v => exact ⟨v, rfl, h⟩
theorem of_guard1 {p : Prop} [Decidable p] {a : Ctl σ ρ} (h : goodC nx G (if p then a else .out none)) : p ∧ goodC nx G a := by
  split at h
  · exact ⟨‹_›, h⟩
  · exact h.elim
theorem of_bind1 {o : Option α} {f : α → Ctl σ ρ} (h : goodC nx G (bindC o f)) : ∃ v, o = some v ∧ goodC nx G (f v) := by
  cases o with
  | none => exact h.elim
  | some v => exact ⟨v, rfl, h⟩
theorem of_out0 {E : Option ρ} {r : ρ} (h : goodC nx (fun q => q = r) (.out E)) : E = some r := by
  cases E with
  | none => exact h.elim
  | some q => exact congrArg some h
theorem goodC_out {q : ρ} (h : goodC nx G (.out (some q))) : G q := h
theorem of_iter1 {E : Option (Ctl σ ρ)} (h : goodC nx G (E.getD (.out none))) : ∃ q, E = some q ∧ goodC nx G q := by
  cases E with
  | none => exact h.elim
  | some q => exact ⟨q, rfl, h⟩
end

section
variable {P : Program} {ty : Tys} {tb : Fns} {n : Nat} {draw : List Oper → St → Prop} {fin' : St → Prop} {stop : List K → St → Prop} {k : List K} {st : St} {sus : List AV}
/-- A LOOP that is a function's loop. -/
theorem Stop.iter (S : Stop P ty tb n draw fin' stop sus) {c : Code} {σ ρ : Type} (head : σ → St) (B : σ → Ctl σ ρ) (G : ρ → Prop) {fuel : Nat} {s : σ} {q : ρ} (hq : iterC B fuel s = some q) (hG : G q)
    (round : ∀ s, goodC (fun s' => stop (.lp c :: k) (head s')) G (B s) → stop (.code c :: .lp c :: k) (head s)) : stop (.lp c :: k) (head s) := by
  induction fuel generalizing s with
  | zero => cases hq
  | succ m ih =>
    simp only [iterC] at hq
    refine S.lp (round s ?_)
    cases hB : B s with
    | next s' => rw [hB] at hq; exact ih hq
    | out r => rw [hB] at hq; subst hq; exact hG
end

section
variable {α : Type} [Inhabited α] {s : Nat} {f : α → List D} {g : List D → α}
theorem Eqv.trans {a b c : D} (h : Eqv a b) (k : Eqv b c) : Eqv a c := by
  induction h generalizing c with
  | refl d => exact k
  | nil s s' g g' =>
    cases k with
    | refl => exact .nil _ _ _ _
    | nil => exact .nil _ _ _ _
    | sl s n g g' hl he => exact .nil _ _ _ _
  | sl s n g g' hl he ih =>
    cases k with
    | refl => exact .sl _ _ _ _ hl he
    | nil => exact .nil _ _ _ _
    | sl _ _ _ g2 hl2 he2 => exact .sl _ _ _ _ (fun i hi => (hl i hi).trans (hl2 i hi)) (fun i j hi hj => ih i j hi hj (he2 i j hi hj))
/-- cells that read alike -/
def likeDs (x y : List D) : Prop := x.length = y.length ∧ ∀ j : Nat, Eqv (x.getD j .undef) (y.getD j .undef)
theorem likeDs.refl (x : List D) : likeDs x x := ⟨rfl, fun _ => .refl _⟩
theorem likeDs_of : ∀ {x y : List D}, eqvDs x y → likeDs x y
  | [], [], _ => .refl _
  | [], _ :: _, h => h.elim
  | _ :: _, [], h => h.elim
  | a :: x, b :: y, h => by
    obtain ⟨h1, h2⟩ := likeDs_of h.2
    refine ⟨by simp [h1], fun j => ?_⟩
    cases j with
    | zero => simpa using h.1
    | succ j => simpa using h2 j
def eqvLL : List (List D) → List (List D) → Prop
  | [], [] => True
  | x :: r, y :: s => eqvDs x y ∧ eqvLL r s
  | _, _ => False
theorem eqvLL_get : ∀ {x y : List (List D)}, eqvLL x y → x.length = y.length ∧ ∀ i : Nat, likeDs (x.getD i []) (y.getD i [])
  | [], [], _ => ⟨rfl, fun _ => .refl _⟩
  | [], _ :: _, h => h.elim
  | _ :: _, [], h => h.elim
  | a :: x, b :: y, h => by
    obtain ⟨h1, h2⟩ := eqvLL_get h.2
    refine ⟨by simp [h1], fun j => ?_⟩
    cases j with
    | zero => simpa using likeDs_of h.1
    | succ j => simpa using h2 j
/-- data that read as a list -/
def Can (s : Nat) (f : α → List D) (l : List α) (d : D) : Prop := d.isSl = true ∧ d.stride = s ∧ d.len = l.length ∧ ∀ i, i < l.length → likeDs (d.nth i) (f (l.getD i default))
def CanW (f : α → List D) (l : List α) (d : D) : Prop := d.len = l.length ∧ ∀ i, i < l.length → likeDs (d.nth i) (f (l.getD i default))
theorem Can.w {l : List α} {d : D} (h : Can s f l d) : CanW f l d := h.2.2
theorem eqvO_can {l : List α} {d : D} (h : Can s f l d) : EqvO d (encF s f l) = True :=
  eq_true ⟨h.1, rfl, h.2.1, h.2.2.1, fun i hi => h.2.2.2 i (by rw [← h.2.2.1]; exact hi)⟩
theorem eqv_can {l : List α} {d : D} (h : Can s f l d) : Eqv d (encF s f l) = True := eq_true (EqvO.eqv (of_eq_true (eqvO_can h)))
theorem can_enc (l : List α) : Can s f l (encF s f l) = True := eq_true ⟨rfl, rfl, rfl, fun _ _ => .refl _⟩
theorem canW_enc {s' : Nat} (l : List α) : CanW f l (encF s' f l) = True := eq_true ⟨rfl, fun _ _ => .refl _⟩
theorem can_ofList {l : List α} {cs : List (List D)} (h : eqvLL cs (l.map f)) : Can s f l (D.ofList s cs) = True := by
  obtain ⟨h1, h2⟩ := eqvLL_get h
  refine eq_true ⟨rfl, rfl, by simpa [D.ofList, D.len] using h1, fun i hi => ?_⟩
  have := h2 i
  simpa [D.ofList, D.nth, List.getD_eq_getElem?_getD, hi] using this
theorem canW_ofList {s' : Nat} {l : List α} {cs : List (List D)} (h : eqvLL cs (l.map f)) : CanW f l (D.ofList s' cs) = True := eq_true (Can.w (of_eq_true (can_ofList (s := s') h)))
theorem can_nil (k : Nat → List D) : Can s f ([] : List α) (.sl s 0 k) = True := eq_true ⟨rfl, rfl, rfl, fun i hi => absurd hi (by simp)⟩
theorem canW_nil {s' : Nat} (k : Nat → List D) : CanW f ([] : List α) (.sl s' 0 k) = True := eq_true ⟨rfl, fun i hi => absurd hi (by simp)⟩
theorem canW_cat {l r : List α} {x y : D} (hx : CanW f l x) (hy : CanW f r y) : CanW f (l ++ r) (D.cat x y) := by
  refine ⟨by simp [D.cat, D.len]; rw [← hx.1, ← hy.1]; rfl, fun i hi => ?_⟩
  have hn : (D.cat x y).nth i = if i < x.len then x.nth i else y.nth (i - x.len) := rfl
  rw [hn, hx.1]
  simp only [List.length_append] at hi
  split
  · rename_i h
    have := hx.2 i h
    simpa [List.getD_eq_getElem?_getD, List.getElem?_append_left h, h] using this
  · rename_i h
    have := hy.2 (i - l.length) (by omega)
    simpa [List.getD_eq_getElem?_getD, List.getElem?_append_right (Nat.le_of_not_lt h)] using this
theorem can_cat {l r : List α} {x y : D} (hx : Can s f l x) (hy : CanW f r y) : Can s f (l ++ r) (D.cat x y) = True :=
  eq_true ⟨rfl, hx.2.1, canW_cat hx.w hy⟩
theorem can_cat0 {r : List α} {x y : D} (hx : Can s f ([] : List α) x) (hy : CanW f r y) : Can s f r (D.cat x y) = True :=
  eq_true ⟨rfl, hx.2.1, by have h9 := canW_cat hx.w hy; rw [List.nil_append] at h9; exact h9⟩
theorem likeDs.splice {x y : List D} (h : likeDs x y) (o : Nat) (c : List D) : likeDs (splice x o c) (splice y o c) := by
  obtain ⟨h1, h2⟩ := h
  refine ⟨by simp [Go.Abs.splice, h1], fun j => ?_⟩
  have hg : ∀ z : List D, (Go.Abs.splice z o c).getD j .undef = if j < min o z.length then z.getD j .undef else if j < min o z.length + c.length then c.getD (j - min o z.length) .undef else z.getD (o + c.length + (j - (min o z.length + c.length))) .undef := by
    intro z
    simp only [Go.Abs.splice, List.getD_eq_getElem?_getD, List.append_assoc, List.getElem?_append, List.length_take, List.getElem?_take, List.getElem?_drop]
    split
    · rename_i hh; rw [if_pos (by omega)]
    · rename_i hh
      split
      · rename_i h3; rw [if_pos (by omega)]
      · rename_i h3; rw [if_neg (by omega)]; congr 3; omega
  rw [hg x, hg y, h1]
  split
  · exact h2 j
  · split
    · exact .refl _
    · exact h2 _
theorem can_set {l : List α} {x : D} {i o : Nat} {c : List D} {a : α} (hx : Can s f l x) (hc : eqvDs (splice (f (l.getD i default)) o c) (f a)) : Can s f (l.set i a) (x.setAt i o c) = True := by
  refine eq_true ⟨rfl, hx.2.1, by simp only [D.setAt, D.len, List.length_set]; exact hx.2.2.1, fun j hj => ?_⟩
  have hn : (x.setAt i o c).nth j = if j = i then splice (x.nth i) o c else x.nth j := rfl
  rw [hn]
  simp only [List.length_set] at hj
  split
  · rename_i h; subst h
    have e : ((l.set j a).getD j default) = a := by simp [List.getD_eq_getElem?_getD, hj]
    rw [e]
    have h1 := (hx.2.2.2 j hj).splice o c
    have h2 := likeDs_of hc
    exact ⟨h1.1.trans h2.1, fun q => (h1.2 q).trans (h2.2 q)⟩
  · rename_i h
    have := hx.2.2.2 j hj
    simpa [List.getD_eq_getElem?_getD, List.getElem?_set, Ne.symm h] using this
theorem can_setF {l : List α} {x : D} {i : Nat} {c : List D} {a : α} (hx : Can s f l x) (hn : (f (l.getD i default)).length = c.length) (hc : eqvDs c (f a)) : Can s f (l.set i a) (x.setAt i 0 c) = True := by
  have e : splice (f (l.getD i default)) 0 c = c := by
    simp only [splice, List.take_zero, List.nil_append, Nat.zero_add]
    rw [List.drop_eq_nil_of_le (by omega), List.append_nil]
  refine eq_true ⟨rfl, hx.2.1, by simp only [D.setAt, D.len, List.length_set]; exact hx.2.2.1, fun j hj => ?_⟩
  have hn : (x.setAt i 0 c).nth j = if j = i then splice (x.nth i) 0 c else x.nth j := rfl
  rw [hn]
  simp only [List.length_set] at hj
  split
  · rename_i h; subst h
    have e2 : ((l.set j a).getD j default) = a := by simp [List.getD_eq_getElem?_getD, hj]
    rw [e2]
    have h1 := (hx.2.2.2 j hj).splice 0 c
    rw [e] at h1
    have h2 := likeDs_of hc
    exact ⟨h1.1.trans h2.1, fun q => (h1.2 q).trans (h2.2 q)⟩
  · rename_i h
    have := hx.2.2.2 j hj
    simpa [List.getD_eq_getElem?_getD, List.getElem?_set, Ne.symm h] using this
theorem can_sub {l : List α} {x : D} {lo hi' : Nat} (hx : Can s f l x) (h : lo ≤ hi' ∧ hi' ≤ l.length) : Can s f ((l.drop lo).take (hi' - lo)) (x.sub lo hi') = True := by
  refine eq_true ⟨rfl, hx.2.1, by simp [D.sub, D.len]; omega, fun i hi => ?_⟩
  simp only [List.length_take, List.length_drop] at hi
  show likeDs (x.nth (lo + i)) _
  have := hx.2.2.2 (lo + i) (by omega)
  have h2 : i < hi' - lo := by omega
  simpa [List.getD_eq_getElem?_getD, List.getElem?_take, h2] using this
theorem can_rep {n : Nat} {a : α} {c : List D} (h : eqvDs c (f a)) : Can s f (List.replicate n a) (D.rep s n c) = True := by
  refine eq_true ⟨rfl, rfl, by simp [D.rep, D.len], fun i hi => ?_⟩
  simp only [List.length_replicate] at hi
  show likeDs c _
  have := likeDs_of h
  simpa [List.getD_eq_getElem?_getD, hi] using this
theorem eqv_nil0 {s' : Nat} (k : Nat → List D) : Eqv (.sl s' 0 k) (encF s f ([] : List α)) = True := eq_true (.nil _ _ _ _)

omit [Inhabited α] in
theorem decF_length (x : D) : (decF g x).length = x.len := by simp [decF]
omit [Inhabited α] in
theorem decF_cat (x y : D) : decF g (D.cat x y) = decF g x ++ decF g y := by
  apply List.ext_getElem
  · simp [decF, D.cat, D.len]
  · intro i h1 h2
    simp only [decF, List.getElem_map, List.getElem_range]
    have hn : (D.cat x y).nth i = if i < x.len then x.nth i else y.nth (i - x.len) := rfl
    rw [hn, List.getElem_append]
    split
    · rename_i h
      rw [dif_pos (by simpa [decF] using h)]
      simp [decF]
    · rename_i h
      rw [dif_neg (by simpa [decF] using h)]
      simp [decF]
omit [Inhabited α] in
theorem decF_setAt (x : D) (i o : Nat) (c : List D) : decF g (x.setAt i o c) = (decF g x).set i (g (splice (x.nth i) o c)) := by
  apply List.ext_getElem
  · simp [decF, D.setAt, D.len]
  · intro j h1 h2
    simp only [decF, List.getElem_map, List.getElem_range, List.getElem_set]
    have hn : (x.setAt i o c).nth j = if j = i then splice (x.nth i) o c else x.nth j := rfl
    rw [hn]
    by_cases h : j = i
    · subst h; simp
    · rw [if_neg h, if_neg (Ne.symm h)]
omit [Inhabited α] in
theorem decF_sub {x : D} {lo hi : Nat} (h : hi ≤ x.len) : decF g (x.sub lo hi) = ((decF g x).drop lo).take (hi - lo) := by
  apply List.ext_getElem
  · rw [decF_length, List.length_take, List.length_drop, decF_length]
    show hi - lo = _
    omega
  · intro j h1 h2
    simp [decF, D.sub, D.nth]
omit [Inhabited α] in
theorem decF_rep (s' n : Nat) (c : List D) : decF g (D.rep s' n c) = List.replicate n (g c) := by
  apply List.ext_getElem
  · simp [decF, D.rep, D.len]
  · intro j h1 h2
    simp [decF, D.rep, D.nth]
omit [Inhabited α] in
theorem decF_nil (s' : Nat) (k : Nat → List D) : decF g (.sl s' 0 k) = [] := rfl
theorem cat_len (x y : D) : (D.cat x y).len = x.len + y.len := rfl
theorem cat_isSl (x y : D) : (D.cat x y).isSl = true := rfl
theorem cat_stride (x y : D) : (D.cat x y).stride = x.stride := rfl
theorem ofList_len (s : Nat) (l : List (List D)) : (D.ofList s l).len = l.length := rfl
theorem ofList_isSl (s : Nat) (l : List (List D)) : (D.ofList s l).isSl = true := rfl
theorem ofList_stride (s : Nat) (l : List (List D)) : (D.ofList s l).stride = s := rfl
theorem setAt_len (x : D) (i o : Nat) (c : List D) : (x.setAt i o c).len = x.len := rfl
theorem setAt_isSl (x : D) (i o : Nat) (c : List D) : (x.setAt i o c).isSl = true := rfl
theorem setAt_stride (x : D) (i o : Nat) (c : List D) : (x.setAt i o c).stride = x.stride := rfl
theorem sub_len (x : D) (a b : Nat) : (x.sub a b).len = b - a := rfl
theorem sub_isSl (x : D) (a b : Nat) : (x.sub a b).isSl = true := rfl
theorem sub_stride (x : D) (a b : Nat) : (x.sub a b).stride = x.stride := rfl
theorem rep_len (s n : Nat) (c : List D) : (D.rep s n c).len = n := rfl
theorem rep_isSl (s n : Nat) (c : List D) : (D.rep s n c).isSl = true := rfl
theorem rep_stride (s n : Nat) (c : List D) : (D.rep s n c).stride = s := rfl
theorem sl_len (s n : Nat) (k : Nat → List D) : (D.sl s n k).len = n := rfl
theorem sl_isSl (s n : Nat) (k : Nat → List D) : (D.sl s n k).isSl = true := rfl
theorem sl_stride (s n : Nat) (k : Nat → List D) : (D.sl s n k).stride = s := rfl
theorem flat_enc {l : List α} (h : ∀ a, (f a).all D.scalar = true) : (encF s f l).flat = True := eq_true (fun i _ => h _)
end

def aCell : List Arg → Nat → Nat → D
  | [], _, _ => .undef
  | .c x :: _, 0, _ => x
  | .agg l :: _, 0, j => l.getD j .undef
  | .ptr l :: _, 0, j => l.getD j .undef
  | .clo _ caps :: _, 0, j => caps.flatten.getD j .undef
  | _ :: r, i + 1, j => aCell r i j
def dInt : D → Int | .int _ n => n | _ => 0
def dBool : D → Bool | .bool b => b | _ => false
def dStr : D → ByteArray | .str s => s | _ => .empty
attribute [go_sem] aCell dInt dBool dStr argAV eqv_nil0 can_enc canW_enc can_nil canW_nil decF_cat decF_setAt decF_rep decF_nil cat_len cat_isSl cat_stride ofList_len ofList_isSl ofList_stride setAt_len setAt_isSl setAt_stride sub_len sub_isSl sub_stride rep_len rep_isSl rep_stride sl_len sl_isSl sl_stride
  List.flatten_cons List.flatten_nil and_assoc Option.isSome_some
end Go.Abs

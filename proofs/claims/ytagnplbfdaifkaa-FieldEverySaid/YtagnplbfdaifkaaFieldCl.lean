/- FieldClasses, FieldEvery: choices of conductances, ranges of watts. -/
import Derived.Test.YtagnplbfdaifkaaFieldPw
import Derived.Test.YtagnplbfdaifkaaF24
set_option linter.unusedVariables false
set_option linter.unusedSimpArgs false
namespace Go.Proofs.Ytagnplbfdaifkaa
open Go.Abs

/-- all whole numbers of a range -/
def rngI (lo hi : Int) : List Int := (List.range (hi - lo + 1).toNat).map (fun (i : Nat) => lo + i)
theorem rngI_nil {lo hi : Int} (h : hi < lo) : rngI lo hi = [] := by
  unfold rngI
  rw [show (hi - lo + 1).toNat = 0 by omega]; rfl
theorem rngI_cons {lo hi : Int} (h : lo ≤ hi) : rngI lo hi = lo :: rngI (lo + 1) hi := by
  unfold rngI
  rw [show (hi - lo + 1).toNat = (hi - (lo + 1) + 1).toNat + 1 by omega, List.range_succ_eq_map, List.map_cons, List.map_map]
  congr 1
  · simp
  · apply List.map_congr_left
    intro i _
    simp only [Function.comp]
    omega
theorem rngI_mem {lo hi n : Int} : n ∈ rngI lo hi ↔ lo ≤ n ∧ n ≤ hi := by
  unfold rngI
  simp only [List.mem_map, List.mem_range]
  constructor
  · rintro ⟨i, hi, rfl⟩; omega
  · rintro ⟨h1, h2⟩; exact ⟨(n - lo).toNat, by omega, by omega⟩
theorem iter_rng {σ ρ : Type} (b : Int × σ → Ctl (Int × σ) ρ) (G : σ → Int → σ) (fin : σ → Option ρ) (Inv : σ → Prop) (lo hi : Int) (hlo : lo ≤ hi + 1) (hn : hi - lo + 1 < 1000000000)
    (step : ∀ n o, lo ≤ n → n ≤ hi → Inv o → b (n, o) = .next (n + 1, G o n) ∧ Inv (G o n)) (stop : ∀ o, Inv o → b (hi + 1, o) = .out (fin o)) (o : σ) (ho : Inv o) :
    iterC b 1000000000 (lo, o) = fin ((rngI lo hi).foldl G o) := by
  have key : ∀ (k fuel : Nat) (n : Int) (o : σ), n + k = hi + 1 → lo ≤ n → k < fuel → Inv o → iterC b fuel (n, o) = fin ((rngI n hi).foldl G o) := by
    intro k
    induction k with
    | zero =>
      intro fuel n o h1 h2 hf ho
      obtain ⟨m, rfl⟩ : ∃ m, fuel = m + 1 := ⟨fuel - 1, by omega⟩
      obtain rfl : n = hi + 1 := by omega
      rw [rngI_nil (by omega)]
      simp only [iterC, stop o ho, List.foldl_nil]
    | succ k ih =>
      intro fuel n o h1 h2 hf ho
      obtain ⟨m, rfl⟩ : ∃ m, fuel = m + 1 := ⟨fuel - 1, by omega⟩
      obtain ⟨e1, e2⟩ := step n o h2 (by omega) ho
      rw [rngI_cons (by omega)]
      simp only [iterC, e1, List.foldl_cons]
      exact ih m (n + 1) (G o n) (by omega) (by omega) (by omega) e2
  exact key (hi - lo + 1).toNat 1000000000 lo o (by omega) (by omega) (by omega) ho

/-- ranges that take in one more list of watts -/
def updL : List (Int × Int) → List Int → List (Int × Int)
  | r :: R, w :: W => ((if w < r.1 then w else r.1), (if r.2 < w then w else r.2)) :: updL R W
  | [], w :: W => (w, w) :: updL [] W
  | R, [] => R
theorem updL_nil (R : List (Int × Int)) : updL R [] = R := by cases R <;> rfl
theorem updL_len0 : ∀ W : List Int, (updL [] W).length = W.length
  | [] => rfl
  | w :: W => by simp [updL, updL_len0 W]
theorem updL_lenN : ∀ (R : List (Int × Int)) (W : List Int), W.length ≤ R.length → (updL R W).length = R.length
  | [], [], _ => rfl
  | r :: R, [], _ => rfl
  | r :: R, w :: W, h => by simp [updL, updL_lenN R W (by simpa using h)]
  | [], _ :: _, h => by simp at h
theorem updL_snoc0 : ∀ (W : List Int) (w : Int), updL [] (W ++ [w]) = updL [] W ++ [(w, w)]
  | [], _ => rfl
  | a :: W, w => by simp [updL, updL_snoc0 W w]
theorem updL_snocN : ∀ (R : List (Int × Int)) (W : List Int) (w : Int), W.length < R.length →
    updL R (W ++ [w]) = (updL R W).set W.length ((if w < ((updL R W).getD W.length default).1 then w else ((updL R W).getD W.length default).1), (if ((updL R W).getD W.length default).2 < w then w else ((updL R W).getD W.length default).2))
  | [], _, _, h => by simp at h
  | r :: R, [], w, _ => by simp [updL, updL_nil]
  | r :: R, a :: W, w, h => by
    have ih := updL_snocN R W w (by simpa using h)
    simp only [List.cons_append, updL, List.length_cons, List.getD_cons_succ, List.set_cons_succ, ih]
/-- ranges at first, or so many -/
def InvR (N : Nat) (o : List (Int × Int)) : Prop := o = [] ∨ o.length = N
theorem updL_inv {N : Nat} {o : List (Int × Int)} {W : List Int} (h : InvR N o) (hW : W.length = N) : (updL o W).length = N := by
  rcases h with rfl | h
  · rw [updL_len0, hW]
  · rw [updL_lenN _ _ (by omega), h]
def gB {ρ : Type} (W : List Int) (F : List (Int × Int) → Option ρ) : Int × List (Int × Int) → Ctl (Int × List (Int × Int)) ρ := fun s1 =>
  if (decide (s1.1 < (W.length : Int))) = true then
   if 0 ≤ s1.1 ∧ s1.1 < (W.length : Int) then
    if (s1.1 == (s1.2.length : Int)) = true then
     if (s1.2.length + 1) * 16 ≤ 140737488355328 ∧ s1.2.length + 1 ≤ 9223372036854775807 then
      if 0 ≤ s1.1 ∧ s1.1 < ((s1.2 ++ [((W.getD s1.1.toNat default), (W.getD s1.1.toNat default))]).length : Int) then
       if 0 ≤ s1.1 ∧ s1.1 < ((s1.2 ++ [((W.getD s1.1.toNat default), (W.getD s1.1.toNat default))]).length : Int) then
        if 0 ≤ s1.1 ∧ s1.1 < ((s1.2 ++ [((W.getD s1.1.toNat default), (W.getD s1.1.toNat default))]).length : Int) then
         .next (IntKind.i64.wrap (s1.1 + 1), (s1.2 ++ [((W.getD s1.1.toNat default), (W.getD s1.1.toNat default))]).set s1.1.toNat ((if (W.getD s1.1.toNat default) < ((s1.2 ++ [((W.getD s1.1.toNat default), (W.getD s1.1.toNat default))]).getD s1.1.toNat default).1 then (W.getD s1.1.toNat default) else ((s1.2 ++ [((W.getD s1.1.toNat default), (W.getD s1.1.toNat default))]).getD s1.1.toNat default).1), (if ((s1.2 ++ [((W.getD s1.1.toNat default), (W.getD s1.1.toNat default))]).getD s1.1.toNat default).2 < (W.getD s1.1.toNat default) then (W.getD s1.1.toNat default) else ((s1.2 ++ [((W.getD s1.1.toNat default), (W.getD s1.1.toNat default))]).getD s1.1.toNat default).2)))
         else .out none
        else .out none
       else .out none
      else .out none
     else if 0 ≤ s1.1 ∧ s1.1 < (s1.2.length : Int) then
      if 0 ≤ s1.1 ∧ s1.1 < (s1.2.length : Int) then
       if 0 ≤ s1.1 ∧ s1.1 < (s1.2.length : Int) then
        .next (IntKind.i64.wrap (s1.1 + 1), s1.2.set s1.1.toNat ((if (W.getD s1.1.toNat default) < (s1.2.getD s1.1.toNat default).1 then (W.getD s1.1.toNat default) else (s1.2.getD s1.1.toNat default).1), (if (s1.2.getD s1.1.toNat default).2 < (W.getD s1.1.toNat default) then (W.getD s1.1.toNat default) else (s1.2.getD s1.1.toNat default).2)))
        else .out none
       else .out none
      else .out none
    else .out none
   else .out (F s1.2)
theorem loopG {ρ : Type} (W : List Int) (F : List (Int × Int) → Option ρ) {N : Nat} (hW : W.length = N) (hN : N ≤ 4) {o : List (Int × Int)} (ho : InvR N o) : iterC (gB W F) 1000000000 (0, o) = F (updL o W) := by
  have key := iter_run W.length (gB W F) (fun i => ((i : Int), updL o (W.take i))) (F (updL o W)) (by omega) (fun i hi => by
    rcases ho with rfl | ho
    · have hlen : (updL [] (W.take i)).length = i := by rw [updL_len0]; simp; omega
      have e0 : ((i : Int) == (((updL [] (W.take i)).length : Nat) : Int)) = true := by rw [hlen]; simp
      have e1 : ((updL [] (W.take i) ++ [((W.getD i default), (W.getD i default))]).length : Int) = (i : Int) + 1 := by
        rw [List.length_append, hlen]; simp
      have e2 : (updL [] (W.take i) ++ [((W.getD i default), (W.getD i default))]).getD i default = ((W.getD i default), (W.getD i default)) := by
        rw [List.getD_eq_getElem?_getD, List.getElem?_append_right (by omega), hlen, Nat.sub_self]; rfl
      have e3 : ∀ x : Int × Int, (updL [] (W.take i) ++ [((W.getD i default), (W.getD i default))]).set i x = updL [] (W.take i) ++ [x] := by
        intro x
        rw [List.set_append_right _ _ (by omega), hlen, Nat.sub_self]; rfl
      have g : (0 : Int) ≤ (i : Int) ∧ (i : Int) < (i : Int) + 1 := ⟨by omega, by omega⟩
      simp only [gB, ltN hi, if_true, if_pos (rgN hi), Int.toNat_natCast, wS i (by omega), e0, e1, e2, e3, if_pos g, hlen]
      rw [if_pos (show (i + 1) * 16 ≤ 140737488355328 ∧ i + 1 ≤ 9223372036854775807 by omega), take_getD hi, updL_snoc0]
      simp
    · have hlen : (updL o (W.take i)).length = N := by rw [updL_lenN _ _ (by simp; omega), ho]
      have e0 : ((i : Int) == ((N : Nat) : Int)) = false := by simp; omega
      have hiN : i < N := by omega
      have ht : (W.take i).length = i := by simp; omega
      have hs := updL_snocN o (W.take i) (W.getD i default) (by omega)
      rw [ht] at hs
      simp only [gB, ltN hi, if_true, if_pos (rgN hi), Int.toNat_natCast, wS i (by omega), e0, Bool.false_eq_true, if_false, hlen, if_pos (rgN hiN)]
      rw [take_getD hi, hs]; rfl) (by
    unfold gB
    rw [if_neg (by simp)]
    simp only [List.take_length])
  simpa [updL_nil] using key
/-- all choices, one after the other -/
def full (Wf : List Int → List Int) : List Int → List (Int × Int) → List (Int × Int) → List (Int × Int)
  | p, [], o => updL o (Wf p)
  | p, r :: rs, o => (rngI r.1 r.2).foldl (fun o n => full Wf (p ++ [n]) rs o) o
def watQ (X : List Int) (t : Int) (q : List Int) : List Int := wat t (powV q X).sum 0 (powV q X)
/-- ranges of conductances, reactances, a total -/
structure Cl (Rg : List (Int × Int)) (X : List Int) (t : Int) : Prop where
  x : ∀ x ∈ X, 1 ≤ x ∧ x ≤ 32
  len : Rg.length = X.length
  pos : 1 ≤ X.length
  le : X.length ≤ 4
  r : ∀ r ∈ Rg, 1 ≤ r.1 ∧ r.1 ≤ r.2 ∧ r.2 ≤ 4
  t0 : 0 ≤ t
  t1 : t ≤ 100000
def In4 (q : List Int) : Prop := ∀ c ∈ q, 1 ≤ c ∧ c ≤ 4
variable {Rg : List (Int × Int)} {X : List Int} {t : Int}
theorem Cl.lad (h : Cl Rg X t) {q : List Int} (hq : In4 q) (hl : q.length = X.length) : Lad q X := ⟨hl.symm, hq, h.x⟩
theorem Cl.w (h : Cl Rg X t) {q : List Int} (hq : In4 q) (hl : q.length = X.length) : r103 q X t = some (watQ X t q) ∧ (watQ X t q).length = X.length := by
  have hL := h.lad hq hl
  have hp := h.pos
  have hle := h.le
  refine ⟨p103 hL (by omega) (by omega) h.t0 h.t1, ?_⟩
  unfold watQ
  rw [wat_len, powV_len _ _ hL.len, hl]
theorem in4_snoc {p : List Int} {n : Int} (hp : In4 p) (h1 : 1 ≤ n) (h2 : n ≤ 4) : In4 (p ++ [n]) := by
  intro c hc
  rcases List.mem_append.1 hc with hc | hc
  · exact hp c hc
  · rw [List.mem_singleton.1 hc]; exact ⟨h1, h2⟩
theorem foldl_inv {α σ : Type} (I : σ → Prop) (g : σ → α → σ) : ∀ (l : List α) (o : σ), I o → (∀ a ∈ l, ∀ o, I o → I (g o a)) → I (l.foldl g o)
  | [], _, h, _ => h
  | a :: l, o, h, hs => by
    rw [List.foldl_cons]
    exact foldl_inv I g l (g o a) (hs a (List.mem_cons_self ..) o h) (fun b hb => hs b (List.mem_cons_of_mem _ hb))
theorem full_inv (h : Cl Rg X t) : ∀ (rs : List (Int × Int)) (p : List Int) (o : List (Int × Int)), In4 p → p.length + rs.length = X.length → (∀ r ∈ rs, 1 ≤ r.1 ∧ r.1 ≤ r.2 ∧ r.2 ≤ 4) → InvR X.length o → InvR X.length (full (watQ X t) p rs o)
  | [], p, o, hp, hl, _, ho => .inr (updL_inv ho (h.w hp (by simpa using hl)).2)
  | r :: rs, p, o, hp, hl, hr, ho => by
    have hr0 := hr r (List.mem_cons_self ..)
    unfold full
    refine foldl_inv (InvR X.length) _ _ _ ho (fun n hn o ho => ?_)
    rw [rngI_mem] at hn
    exact full_inv h rs (p ++ [n]) o (in4_snoc hp (by omega) (by omega)) (by simp at hl ⊢; omega) (fun r hr' => hr r (List.mem_cons_of_mem _ hr')) ho
theorem level {ρ : Type} (h : Cl Rg X t) (b : Int × List (Int × Int) → Ctl (Int × List (Int × Int)) ρ) (fin : List (Int × Int) → Option ρ) {p : List Int} {r : Int × Int} {rs : List (Int × Int)} (hp : In4 p) (hl : p.length + (r :: rs).length = X.length)
    (hr : ∀ q ∈ r :: rs, 1 ≤ q.1 ∧ q.1 ≤ q.2 ∧ q.2 ≤ 4) (hb : ∀ n o, r.1 ≤ n → n ≤ r.2 → InvR X.length o → b (n, o) = .next (n + 1, full (watQ X t) (p ++ [n]) rs o)) (hstop : ∀ o, b (r.2 + 1, o) = .out (fin o)) (o : List (Int × Int)) (ho : InvR X.length o) :
    iterC b 1000000000 (r.1, o) = fin (full (watQ X t) p (r :: rs) o) := by
  have hr0 := hr r (List.mem_cons_self ..)
  exact iter_rng b (fun o n => full (watQ X t) (p ++ [n]) rs o) fin (InvR X.length) r.1 r.2 (by omega) (by omega) (fun n o h1 h2 ho =>
    ⟨hb n o h1 h2 ho, full_inv h rs (p ++ [n]) o (in4_snoc hp (by omega) (by omega)) (by simp at hl ⊢; omega) (fun q hq => hr q (List.mem_cons_of_mem _ hq)) ho⟩) (fun o _ => hstop o) o ho
theorem Cl.get (h : Cl Rg X t) {k : Nat} (hk : k < Rg.length) : 1 ≤ (Rg.getD k default).1 ∧ (Rg.getD k default).1 ≤ (Rg.getD k default).2 ∧ (Rg.getD k default).2 ≤ 4 := h.r _ (getD_mem hk)
theorem Cl.drop (h : Cl Rg X t) (k : Nat) : ∀ r ∈ Rg.drop k, 1 ≤ r.1 ∧ r.1 ≤ r.2 ∧ r.2 ≤ 4 := fun r hr => h.r r (List.mem_of_mem_drop hr)
theorem dropP {l : List (Int × Int)} {k : Nat} (h : k < l.length) : l.drop k = l.getD k default :: l.drop (k + 1) := by
  rw [List.drop_eq_getElem_cons h, List.getD_eq_getElem?_getD, List.getElem?_eq_getElem h]; rfl
theorem decT {n m : Int} (h : n ≤ m) : decide (n ≤ m) = true := by simpa using h
theorem decF' {m : Int} : ¬ (decide (m + 1 ≤ m) = true) := by simp; omega
theorem e9 (s8 : Int × List (Int × Int)) (W : List Int) : b61_9 s8 W = gB W (fun o => some (.next (IntKind.i64.wrap (s8.1 + 1), o))) := rfl
theorem e7 (s6 : Int × List (Int × Int)) (W : List Int) : b61_7 s6 W = gB W (fun o => some (.next (IntKind.i64.wrap (s6.1 + 1), o))) := rfl
theorem e5 (s4 : Int × List (Int × Int)) (W : List Int) : b61_5 s4 W = gB W (fun o => some (.next (IntKind.i64.wrap (s4.1 + 1), o))) := rfl
theorem e3 (s2 : Int × List (Int × Int)) (W : List Int) : b61_3 s2 W = gB W (fun o => some (.next (IntKind.i64.wrap (s2.1 + 1), o))) := rfl
variable {C : List Int} {s2 s4 s6 : Int × List (Int × Int)}
theorem L8 (h : Cl Rg X t) (hN : Rg.length = 4) (hp : In4 [s2.1, s4.1, s6.1]) (o : List (Int × Int)) (ho : InvR X.length o) :
    iterC (b61_8 Rg t (C, X) s2 s4 s6) 1000000000 ((Rg.getD 3 default).1, o) = some (.next (IntKind.i64.wrap (s6.1 + 1), full (watQ X t) [s2.1, s4.1, s6.1] (Rg.drop 3) o)) := by
  have hl := h.len
  have hg := h.get (k := 3) (by omega)
  have hd : Rg.drop 4 = [] := List.drop_eq_nil_of_le (by omega)
  have hdr := h.drop 3
  rw [dropP (show 3 < Rg.length by omega), hd] at hdr ⊢
  refine level h (b61_8 Rg t (C, X) s2 s4 s6) (fun o => some (Ctl.next (IntKind.i64.wrap (s6.1 + 1), o))) hp (by simp; omega) hdr (fun n o h1 h2 ho => ?_) (fun o => ?_) o ho
  · have hq : In4 [s2.1, s4.1, s6.1, n] := in4_snoc hp (by omega) (by omega)
    obtain ⟨w1, w2⟩ := h.w hq (by simp; omega)
    show (if decide (n ≤ (Rg.getD 3 default).2) = true then (if (3 + 1) * 8 ≤ 140737488355328 ∧ 3 + 1 ≤ 9223372036854775807 then (if ((4 : Int) == (Rg.length : Int)) = true then bindC (r103 [s2.1, s4.1, s6.1, n] X t) fun v42 => (iterC (b61_9 (n, o) v42) 1000000000 (0, o)).getD (.out none) else _) else _) else _) = _
    rw [if_pos (decT h2), if_pos ⟨by decide, by decide⟩, if_pos (by rw [hN]; rfl), w1]
    simp only [bindC]
    rw [e9, loopG _ _ w2 h.le ho, Option.getD_some, wI (by omega) (by omega)]
    rfl
  · show (if decide ((Rg.getD 3 default).2 + 1 ≤ (Rg.getD 3 default).2) = true then _ else _) = _
    rw [if_neg decF']
theorem L6 (h : Cl Rg X t) (hN : 3 ≤ Rg.length) (hp : In4 [s2.1, s4.1]) (o : List (Int × Int)) (ho : InvR X.length o) :
    iterC (b61_6 Rg t (C, X) s2 s4) 1000000000 ((Rg.getD 2 default).1, o) = some (.next (IntKind.i64.wrap (s4.1 + 1), full (watQ X t) [s2.1, s4.1] (Rg.drop 2) o)) := by
  have hl := h.len
  have hle := h.le
  have hg := h.get (k := 2) (by omega)
  have hdr := h.drop 2
  rw [dropP (show 2 < Rg.length by omega)] at hdr ⊢
  refine level h (b61_6 Rg t (C, X) s2 s4) (fun o => some (Ctl.next (IntKind.i64.wrap (s4.1 + 1), o))) hp (by simp; omega) hdr (fun n o h1 h2 ho => ?_) (fun o => ?_) o ho
  · have hq : In4 [s2.1, s4.1, n] := in4_snoc hp (by omega) (by omega)
    show (if decide (n ≤ (Rg.getD 2 default).2) = true then (if (2 + 1) * 8 ≤ 140737488355328 ∧ 2 + 1 ≤ 9223372036854775807 then (if ((3 : Int) == (Rg.length : Int)) = true then bindC (r103 [s2.1, s4.1, n] X t) fun v42 => (iterC (b61_7 (n, o) v42) 1000000000 (0, o)).getD (.out none)
      else if 0 ≤ (3 : Nat) ∧ (3 : Int) < (Rg.length : Int) then (iterC (b61_8 Rg t (C, X) s2 s4 (n, o)) 1000000000 ((Rg.getD 3 default).1, o)).getD (.out none) else .out none) else .out none) else _) = _
    rw [if_pos (decT h2), if_pos ⟨by decide, by decide⟩]
    by_cases hN3 : Rg.length = 3
    · obtain ⟨w1, w2⟩ := h.w hq (by simp; omega)
      have hd : Rg.drop 3 = [] := List.drop_eq_nil_of_le (by omega)
      rw [if_pos (by rw [hN3]; rfl), w1, hd]
      simp only [bindC]
      rw [e7, loopG _ _ w2 h.le ho, Option.getD_some, wI (by omega) (by omega)]
      rfl
    · rw [if_neg (by simp; omega), if_pos ⟨by omega, by omega⟩, L8 (s6 := (n, o)) h (by omega) hq o ho, Option.getD_some, wI (by omega) (by omega)]
      rfl
  · show (if decide ((Rg.getD 2 default).2 + 1 ≤ (Rg.getD 2 default).2) = true then _ else _) = _
    rw [if_neg decF']
theorem L4 (h : Cl Rg X t) (hN : 2 ≤ Rg.length) (hp : In4 [s2.1]) (o : List (Int × Int)) (ho : InvR X.length o) :
    iterC (b61_4 Rg t (C, X) s2) 1000000000 ((Rg.getD 1 default).1, o) = some (.next (IntKind.i64.wrap (s2.1 + 1), full (watQ X t) [s2.1] (Rg.drop 1) o)) := by
  have hl := h.len
  have hle := h.le
  have hg := h.get (k := 1) (by omega)
  have hdr := h.drop 1
  rw [dropP (show 1 < Rg.length by omega)] at hdr ⊢
  refine level h (b61_4 Rg t (C, X) s2) (fun o => some (Ctl.next (IntKind.i64.wrap (s2.1 + 1), o))) hp (by simp; omega) hdr (fun n o h1 h2 ho => ?_) (fun o => ?_) o ho
  · have hq : In4 [s2.1, n] := in4_snoc hp (by omega) (by omega)
    show (if decide (n ≤ (Rg.getD 1 default).2) = true then (if (1 + 1) * 8 ≤ 140737488355328 ∧ 1 + 1 ≤ 9223372036854775807 then (if ((2 : Int) == (Rg.length : Int)) = true then bindC (r103 [s2.1, n] X t) fun v42 => (iterC (b61_5 (n, o) v42) 1000000000 (0, o)).getD (.out none)
      else if 0 ≤ (2 : Nat) ∧ (2 : Int) < (Rg.length : Int) then (iterC (b61_6 Rg t (C, X) s2 (n, o)) 1000000000 ((Rg.getD 2 default).1, o)).getD (.out none) else .out none) else .out none) else _) = _
    rw [if_pos (decT h2), if_pos ⟨by decide, by decide⟩]
    by_cases hN3 : Rg.length = 2
    · obtain ⟨w1, w2⟩ := h.w hq (by simp; omega)
      have hd : Rg.drop 2 = [] := List.drop_eq_nil_of_le (by omega)
      rw [if_pos (by rw [hN3]; rfl), w1, hd]
      simp only [bindC]
      rw [e5, loopG _ _ w2 h.le ho, Option.getD_some, wI (by omega) (by omega)]
      rfl
    · rw [if_neg (by simp; omega), if_pos ⟨by omega, by omega⟩, L6 (s4 := (n, o)) h (by omega) hq o ho, Option.getD_some, wI (by omega) (by omega)]
      rfl
  · show (if decide ((Rg.getD 1 default).2 + 1 ≤ (Rg.getD 1 default).2) = true then _ else _) = _
    rw [if_neg decF']
theorem L2 (h : Cl Rg X t) : iterC (b61_2 Rg t (C, X)) 1000000000 ((Rg.getD 0 default).1, []) = some (full (watQ X t) [] Rg [], 0) := by
  have hl := h.len
  have hle := h.le
  have hp0 := h.pos
  have hg := h.get (k := 0) (by omega)
  have hdr := h.drop 0
  have hp : In4 [] := fun c hc => absurd hc (by simp)
  have e0 : Rg = Rg.getD 0 default :: Rg.drop 1 := dropP (l := Rg) (k := 0) (by omega)
  rw [List.drop_zero, e0] at hdr
  have key := level (p := []) h (b61_2 Rg t (C, X)) (fun o => some (o, 0)) hp (rs := Rg.drop 1) (r := Rg.getD 0 default) (by simp; omega) hdr (fun n o h1 h2 ho => by
    have hq : In4 [n] := in4_snoc hp (by omega) (by omega)
    show (if decide (n ≤ (Rg.getD 0 default).2) = true then (if (0 + 1) * 8 ≤ 140737488355328 ∧ 0 + 1 ≤ 9223372036854775807 then (if ((1 : Int) == (Rg.length : Int)) = true then bindC (r103 [n] X t) fun v42 => (iterC (b61_3 (n, o) v42) 1000000000 (0, o)).getD (.out none)
      else if 0 ≤ (1 : Nat) ∧ (1 : Int) < (Rg.length : Int) then (iterC (b61_4 Rg t (C, X) (n, o)) 1000000000 ((Rg.getD 1 default).1, o)).getD (.out none) else .out none) else .out none) else _) = _
    rw [if_pos (decT h2), if_pos ⟨by decide, by decide⟩]
    by_cases hN3 : Rg.length = 1
    · obtain ⟨w1, w2⟩ := h.w hq (by simp; omega)
      have hd : Rg.drop 1 = [] := List.drop_eq_nil_of_le (by omega)
      rw [if_pos (by rw [hN3]; rfl), w1, hd]
      simp only [bindC]
      rw [e3, loopG _ _ w2 h.le ho, Option.getD_some, wI (by omega) (by omega)]
      rfl
    · rw [if_neg (by simp; omega), if_pos ⟨by omega, by omega⟩, L4 (s2 := (n, o)) h (by omega) hq o ho, Option.getD_some, wI (by omega) (by omega)]
      rfl) (fun o => by
    show (if decide ((Rg.getD 0 default).2 + 1 ≤ (Rg.getD 0 default).2) = true then _ else _) = _
    rw [if_neg decF']) [] (.inl rfl)
  rw [← e0] at key
  exact key
/-- errors of a class -/
def rgE (r : Int × Int) : Int := if (inR r.1 1 4 && inR r.2 1 4) = true then (if r.1 ≤ r.2 then 0 else 9) else 2
def rgF (R : List (Int × Int)) (i : Nat) : Option (Int × Int) := if rgE (R.getD i default) = 0 then none else some ((i : Int), rgE (R.getD i default))
def clsO (T : Int) (L : List (Int × Int × Int)) (R : List (Int × Int)) : Option (Int × Int) :=
  if ladE T L ≠ 0 then ladO T L else if R.length = L.length then orE (scanN (rgF R) 0 R.length) (some (0, 0)) else some (0, 10)
def clsE (T : Int) (L : List (Int × Int × Int)) (R : List (Int × Int)) : Int := ((clsO T L R).getD (0, 0)).2
theorem cls_eq (T : Int) (L : List (Int × Int × Int)) (R : List (Int × Int)) : ∃ i, clsO T L R = some (i, clsE T L R) := by
  obtain ⟨i, e, h⟩ : ∃ i e, clsO T L R = some (i, e) := by
    unfold clsO
    split
    · exact lad_some T L
    · split
      · cases scanN (rgF R) 0 R.length with
        | none => exact ⟨_, _, rfl⟩
        | some v => exact ⟨v.1, v.2, rfl⟩
      · exact ⟨_, _, rfl⟩
  exact ⟨i, by unfold clsE; rw [h]; rfl⟩
theorem p59 (T : Int) (L : List (Int × Int × Int)) (R : List (Int × Int)) (hR : R.length ≤ 1000000) : r59 T L R = clsO T L R := by
  obtain ⟨i, h⟩ := lad_eq T L
  unfold r59 clsO
  rw [p26, h, Option.bind_some]
  by_cases hl : ladE T L = 0
  · rw [if_neg (show ¬ (ladE T L ≠ 0) by simpa using hl), if_neg (by simp [hl])]
    by_cases hn : R.length = L.length
    · rw [if_pos hn, if_neg (by simp [hn])]
      refine iter_scan R.length (b59_1 R) (rgF R) (some (0, 0)) (by omega) (fun i hi => ?_) (by simp [b59_1])
      simp only [b59_1, ltN hi, if_true, if_pos (rgN hi), Int.toNat_natCast, wS i (by omega)]
      have e118 : ∀ a : Int, r118 a = some (inR a 1 4) := fun a => rfl
      simp only [e118, bindC, Option.isSome_some, Option.getD_some, implies_true, if_true, p96]
      rw [p87 _ (by simp)]
      simp only [bindC, rgF]
      have e : firstV [codeIf (inR (R.getD i default).1 1 4 && inR (R.getD i default).2 1 4) 2, codeIf (decide ((R.getD i default).1 ≤ (R.getD i default).2)) 9] = rgE (R.getD i default) := by
        unfold rgE
        cases inR (R.getD i default).1 1 4 <;> cases inR (R.getD i default).2 1 4 <;> by_cases hc : (R.getD i default).1 ≤ (R.getD i default).2 <;> simp [codeIf, firstV, hc]
      rw [e]
      by_cases h5 : rgE (R.getD i default) = 0
      · rw [if_pos h5, if_neg (by rw [h5]; simp)]
      · rw [if_neg h5, if_pos (by simpa using h5)]
    · rw [if_neg hn, if_pos (by simp; omega)]
  · rw [if_pos hl, if_pos (by simpa using hl)]
theorem rg_ref {σ : Type} (s : Int × Int) (i : Int) (nx : Ctl σ (Int × Int)) :
    (if (!inR s.1 1 4 || !inR s.2 1 4) = true then .out (some (i, 2)) else if decide (s.1 > s.2) = true then .out (some (i, 9)) else nx) = if rgE s = 0 then nx else .out (some (i, rgE s)) := by
  unfold rgE
  cases inR s.1 1 4 <;> cases inR s.2 1 4 <;> simp
  by_cases h6 : s.1 ≤ s.2
  · have h7 : ¬ s.2 < s.1 := by omega
    simp [h6, h7]
  · have h7 : s.2 < s.1 := by omega
    simp [h6, h7]
theorem p62 (T : Int) (L : List (Int × Int × Int)) (R : List (Int × Int)) (hR : R.length ≤ 1000000) : r62 T L R = clsO T L R := by
  obtain ⟨i, h⟩ := lad_eq T L
  unfold r62 clsO
  rw [p29, h, Option.bind_some]
  by_cases hl : ladE T L = 0
  · rw [if_neg (show ¬ (ladE T L ≠ 0) by simpa using hl), if_neg (by simp [hl])]
    by_cases hn : R.length = L.length
    · rw [if_pos hn, if_neg (by simp [hn])]
      refine iter_scan R.length (b62_1 R) (rgF R) (some (0, 0)) (by omega) (fun i hi => ?_) (by simp [b62_1])
      simp only [b62_1, ltN hi, if_true, if_pos (rgN hi), Int.toNat_natCast, wS i (by omega), p33, bindC, Option.isSome_some, Option.getD_some, implies_true, rgF]
      rw [if_pos (fun _ => rgN hi), rg_ref]
      by_cases h5 : rgE (R.getD i default) = 0
      · rw [if_pos h5, if_pos h5]
      · rw [if_neg h5, if_neg h5]
    · rw [if_neg hn, if_pos (by simp; omega)]
  · rw [if_pos hl, if_pos (by simpa using hl)]
theorem rgE_ok {r : Int × Int} (h : rgE r = 0) : 1 ≤ r.1 ∧ r.1 ≤ r.2 ∧ r.2 ≤ 4 := by
  unfold rgE at h
  split at h
  · rename_i hc
    simp only [Bool.and_eq_true, inR_iff] at hc
    split at h
    · rename_i h2; exact ⟨hc.1.1, h2, hc.2.2⟩
    · cases h
  · cases h
theorem cls_ok {T : Int} {L : List (Int × Int × Int)} {R : List (Int × Int)} (h : clsE T L R = 0) : ladE T L = 0 ∧ R.length = L.length ∧ ∀ r ∈ R, 1 ≤ r.1 ∧ r.1 ≤ r.2 ∧ r.2 ≤ 4 := by
  unfold clsE clsO at h
  split at h
  · rename_i hl
    obtain ⟨i, e⟩ := lad_eq T L
    rw [e] at h
    exact absurd h hl
  · rename_i hl
    split at h
    · rename_i hn
      refine ⟨by simpa using hl, hn, fun r hr => ?_⟩
      obtain ⟨i, hi, rfl⟩ := List.getElem_of_mem hr
      cases hsc : scanN (rgF R) 0 R.length with
      | none =>
        have := scan_none hsc i (by omega) (by omega)
        unfold rgF at this
        split at this
        · rename_i e
          rw [List.getD_eq_getElem?_getD, List.getElem?_eq_getElem hi] at e
          exact rgE_ok e
        · cases this
      | some v =>
        obtain ⟨j, _, _, hj⟩ := scan_some hsc
        rw [hsc] at h
        unfold rgF at hj
        split at hj
        · cases hj
        · rename_i e
          obtain rfl := Option.some.inj hj
          exact absurd h e
    · cases h
theorem cl_of {T : Int} {L : List (Int × Int × Int)} {f : Int} {H : List Bool} (h : clsE T L Rg = 0) (hd : driveE L.length f H = 0) (t0 : 0 ≤ t) (t1 : t ≤ 100000) : Ok T L f H ∧ Cl Rg (reactV f L H) t := by
  obtain ⟨h1, h2, h3⟩ := cls_ok h
  have hb : bothE T L f H = 0 := by unfold bothE; rw [if_pos h1]; exact hd
  have ok := ok_of hb
  have hrl := reactV_len f L H ok.hot
  have hp := ok.lad.pos
  have hle := ok.lad.le
  exact ⟨ok, reactV_rng ok, by omega, by omega, by omega, h3, t0, t1⟩
theorem p61 (T : Int) (L : List (Int × Int × Int)) (R : List (Int × Int)) (f : Int) (H : List Bool) (t : Int) (hR : R.length ≤ 1000000) :
    r61 T L R f H t = some (if clsE T L R ≠ 0 then ([], clsE T L R) else if driveE L.length f H ≠ 0 then ([], driveE L.length f H) else if inR t 0 100000 = true then (full (watQ (reactV f L H) t) [] R [], 0) else ([], 2)) := by
  obtain ⟨i, hc⟩ := cls_eq T L R
  unfold r61
  rw [p59 T L R hR, hc, Option.bind_some, p100, Option.bind_some, p102, Option.bind_some, p87 _ (by simp), Option.bind_some]
  by_cases h1 : clsE T L R = 0
  · have h1' : ¬ (clsE T L R ≠ 0) := by simpa using h1
    rw [if_neg h1']
    by_cases h2 : driveE L.length f H = 0
    · have h2' : ¬ (driveE L.length f H ≠ 0) := by simpa using h2
      rw [if_neg h2']
      cases ht : inR t 0 100000 with
      | false => simp [h1, h2, codeIf, firstV]
      | true =>
        have it := inR_iff.1 ht
        obtain ⟨ok, cl⟩ := cl_of h1 h2 it.1 it.2
        have hl := cl.len
        have hp := cl.pos
        rw [if_neg (by simp [h1, h2, codeIf, firstV]), p119 ok, Option.bind_some, if_neg (by simp; omega), if_pos ⟨Nat.le_refl 0, by omega⟩]
        exact L2 cl
    · rw [if_pos h2, if_pos (by simp [h1, firstV, h2])]
      simp [h1, firstV, h2]
  · rw [if_pos h1]
    simp only [firstV, if_neg h1]
    rw [if_pos (by simpa using h1)]
end Go.Proofs.Ytagnplbfdaifkaa

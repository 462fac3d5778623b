/- FieldClasses, FieldEvery: the reference's ladders and ranges; FieldClasses as a plain law. -/
import Derived.Test.YtagnplbfdaifkaaFieldCl
import Derived.Test.YtagnplbfdaifkaaF25
set_option linter.unusedVariables false
set_option linter.unusedSimpArgs false
namespace Go.Proofs.Ytagnplbfdaifkaa
open Go.Abs

/-- all choices from the first k ranges -/
def chR (Rg : List (Int × Int)) : Nat → List (List Int)
  | 0 => [[]]
  | k + 1 => (chR Rg k).flatMap fun p => (rngI (Rg.getD k default).1 (Rg.getD k default).2).map fun n => p ++ [n]
variable {Rg : List (Int × Int)} {X : List Int} {t : Int}
theorem foldl_flat {α β σ : Type} (f : α → List β) (g : σ → β → σ) : ∀ (l : List α) (o : σ), (l.flatMap f).foldl g o = l.foldl (fun o a => (f a).foldl g o) o
  | [], _ => rfl
  | a :: l, o => by rw [List.flatMap_cons, List.foldl_append, List.foldl_cons, foldl_flat f g l]
theorem full_ch (Wf : List Int → List Int) (o : List (Int × Int)) : ∀ k, k ≤ Rg.length → (chR Rg k).foldl (fun o p => full Wf p (Rg.drop k) o) o = full Wf [] Rg o
  | 0, _ => rfl
  | k + 1, hk => by
    rw [← full_ch Wf o k (by omega), chR, foldl_flat]
    congr 1
    funext o p
    rw [List.foldl_map, dropP (show k < Rg.length by omega)]
    rfl
theorem full_eq (Wf : List Int → List Int) (o : List (Int × Int)) : full Wf [] Rg o = (chR Rg Rg.length).foldl (fun o p => updL o (Wf p)) o := by
  rw [← full_ch Wf o Rg.length (Nat.le_refl _), List.drop_length]
  rfl
theorem rngI_len {lo hi : Int} (h1 : 1 ≤ lo) (h2 : hi ≤ 4) : (rngI lo hi).length ≤ 4 := by
  unfold rngI; simp; omega
theorem flat_len {α β : Type} (f : α → List β) : ∀ l : List α, (∀ a ∈ l, (f a).length ≤ 4) → (l.flatMap f).length ≤ 4 * l.length
  | [], _ => by simp
  | a :: l, h => by
    have := flat_len f l (fun b hb => h b (List.mem_cons_of_mem _ hb))
    have := h a (List.mem_cons_self ..)
    simp only [List.flatMap_cons, List.length_append, List.length_cons]
    omega
theorem chR_spec (hr : ∀ r ∈ Rg, 1 ≤ r.1 ∧ r.1 ≤ r.2 ∧ r.2 ≤ 4) : ∀ k, k ≤ Rg.length → (chR Rg k).length ≤ 4 ^ k ∧ ∀ q ∈ chR Rg k, q.length = k ∧ ∀ i, i < k → (Rg.getD i default).1 ≤ q.getD i default ∧ q.getD i default ≤ (Rg.getD i default).2
  | 0, _ => ⟨by simp [chR], fun q hq => by
    simp only [chR, List.mem_singleton] at hq
    subst hq
    exact ⟨rfl, fun i hi => by omega⟩⟩
  | k + 1, hk => by
    obtain ⟨h1, h2⟩ := chR_spec hr k (by omega)
    have hg := hr _ (getD_mem (show k < Rg.length by omega))
    refine ⟨?_, fun q hq => ?_⟩
    · have := flat_len (fun p => (rngI (Rg.getD k default).1 (Rg.getD k default).2).map fun n => p ++ [n]) (chR Rg k) (fun a _ => by rw [List.length_map]; exact rngI_len hg.1 hg.2.2)
      rw [chR, Nat.pow_succ]
      omega
    · rw [chR, List.mem_flatMap] at hq
      obtain ⟨p, hp, hq⟩ := hq
      obtain ⟨n, hn, rfl⟩ := List.mem_map.1 hq
      obtain ⟨g1, g2⟩ := h2 p hp
      rw [rngI_mem] at hn
      refine ⟨by simp [g1], fun i hi => ?_⟩
      by_cases e : i = k
      · subst e
        have : (p ++ [n]).getD i default = n := by
          rw [List.getD_eq_getElem?_getD, List.getElem?_append_right (by omega), g1, Nat.sub_self]; rfl
        rw [this]; exact hn
      · have : (p ++ [n]).getD i default = p.getD i default := by
          rw [List.getD_eq_getElem?_getD, List.getElem?_append_left (by omega), List.getD_eq_getElem?_getD]
        rw [this]; exact g2 i (by omega)
theorem chR_in4 (hr : ∀ r ∈ Rg, 1 ≤ r.1 ∧ r.1 ≤ r.2 ∧ r.2 ≤ 4) {q : List Int} (hq : q ∈ chR Rg Rg.length) : q.length = Rg.length ∧ In4 q := by
  obtain ⟨h1, h2⟩ := (chR_spec hr Rg.length (Nat.le_refl _)).2 q hq
  refine ⟨h1, fun c hc => ?_⟩
  obtain ⟨i, hi, rfl⟩ := List.getElem_of_mem hc
  have h3 := h2 i (by omega)
  have h4 := hr _ (getD_mem (show i < Rg.length by omega))
  rw [List.getD_eq_getElem?_getD (l := q), List.getElem?_eq_getElem hi, Option.getD_some] at h3
  omega
/-- a ladder whose first shells have other conductances -/
def setC : List (Int × Int × Int) → List Int → List (Int × Int × Int)
  | s :: L, c :: q => (c, s.2.1, s.2.2) :: setC L q
  | L, _ => L
theorem setC_nil (L : List (Int × Int × Int)) : setC L [] = L := by cases L <;> rfl
theorem setC_len : ∀ (L : List (Int × Int × Int)) (q : List Int), (setC L q).length = L.length
  | [], [] => rfl
  | [], _ :: _ => rfl
  | s :: L, [] => rfl
  | s :: L, c :: q => by simp [setC, setC_len L q]
theorem setC_snoc : ∀ (L : List (Int × Int × Int)) (q : List Int) (n : Int), q.length < L.length → setC L (q ++ [n]) = (setC L q).set q.length (n, ((setC L q).getD q.length default).2.1, ((setC L q).getD q.length default).2.2)
  | [], _, _, h => by simp at h
  | s :: L, [], n, _ => by simp [setC, setC_nil]
  | s :: L, c :: q, n, h => by
    have ih := setC_snoc L q n (by simpa using h)
    simp only [List.cons_append, setC, List.length_cons, List.getD_cons_succ, List.set_cons_succ, ih]
theorem setC_conds : ∀ (L : List (Int × Int × Int)) (q : List Int), q.length = L.length → condsV (setC L q) = q
  | [], [], _ => rfl
  | s :: L, c :: q, h => by
    have := setC_conds L q (by simpa using h)
    simpa [condsV, setC] using this
  | [], _ :: _, h => by simp at h
  | _ :: _, [], h => by simp at h
theorem setC_react (f : Int) : ∀ (L : List (Int × Int × Int)) (q : List Int) (H : List Bool), reactV f (setC L q) H = reactV f L H
  | [], [], _ => rfl
  | [], _ :: _, _ => rfl
  | s :: L, [], _ => rfl
  | s :: L, c :: q, [] => rfl
  | s :: L, c :: q, b :: H => by simp [setC, reactV, setC_react f L q H]
theorem setC_shell : ∀ (L : List (Int × Int × Int)) (q : List Int), (∀ s ∈ L, (1 ≤ s.1 ∧ s.1 ≤ 4) ∧ (1 ≤ s.2.1 ∧ s.2.1 ≤ 4) ∧ 1 ≤ s.2.2 ∧ s.2.2 ≤ s.2.1) → In4 q → ∀ s ∈ setC L q, (1 ≤ s.1 ∧ s.1 ≤ 4) ∧ (1 ≤ s.2.1 ∧ s.2.1 ≤ 4) ∧ 1 ≤ s.2.2 ∧ s.2.2 ≤ s.2.1
  | [], [], h, _, s, hs => h s hs
  | [], _ :: _, h, _, s, hs => h s hs
  | s :: L, [], h, _, s', hs => h s' hs
  | s :: L, c :: q, h, hq, s', hs => by
    simp only [setC, List.mem_cons] at hs
    rcases hs with rfl | hs
    · exact ⟨hq c (List.mem_cons_self ..), (h s (List.mem_cons_self ..)).2⟩
    · exact setC_shell L q (fun u hu => h u (List.mem_cons_of_mem _ hu)) (fun u hu => hq u (List.mem_cons_of_mem _ hu)) s' hs
variable {T : Int} {L : List (Int × Int × Int)} {f : Int} {H : List Bool}
theorem setC_ok (ok : Ok T L f H) {q : List Int} (hq : In4 q) : Ok T (setC L q) f H :=
  ⟨⟨ok.lad.turns, by rw [setC_len]; exact ok.lad.pos, by rw [setC_len]; exact ok.lad.le, setC_shell L q ok.lad.shell hq⟩, ok.freq, by rw [setC_len]; exact ok.hot⟩
theorem rng_take (lo hi : Int) {j : Nat} (h : j < (rngI lo hi).length) : (rngI lo hi).getD j default = lo + j := by
  unfold rngI at h ⊢
  simp at h
  simp only [List.getD_eq_getElem?_getD, List.getElem?_map, List.getElem?_range (show j < (hi - lo + 1).toNat by omega)]; rfl
theorem loop122_3 (k i : Nat) {O Lo : List (Int × List (Int × Int × Int))} (hk : k < Rg.length) (hkL : k < L.length) (hL : L.length ≤ 4) {q : List Int} (hi : i < O.length) (hO : O.getD i default = (T, setC L q)) (hq : q.length = k)
    (hg : 1 ≤ (Rg.getD k default).1 ∧ (Rg.getD k default).1 ≤ (Rg.getD k default).2 ∧ (Rg.getD k default).2 ≤ 4) (hLo : Lo.length ≤ 10000) :
    iterC (b122_3 Rg ((k : Int), O) (Lo, (i : Int))) 1000000000 ((Rg.getD k default).1, Lo) = some (.next (Lo ++ (rngI (Rg.getD k default).1 (Rg.getD k default).2).map (fun n => (T, setC L (q ++ [n]))), IntKind.i64.wrap ((i : Int) + 1))) := by
  have hn4 := rngI_len hg.1 hg.2.2
  have hlenN : (rngI (Rg.getD k default).1 (Rg.getD k default).2).length = ((Rg.getD k default).2 - (Rg.getD k default).1 + 1).toNat := by unfold rngI; simp
  have key := iter_run (rngI (Rg.getD k default).1 (Rg.getD k default).2).length (b122_3 Rg ((k : Int), O) (Lo, (i : Int))) (fun j => ((Rg.getD k default).1 + (j : Int), Lo ++ ((rngI (Rg.getD k default).1 (Rg.getD k default).2).map (fun n => (T, setC L (q ++ [n])))).take j))
    (some (.next (Lo ++ (rngI (Rg.getD k default).1 (Rg.getD k default).2).map (fun n => (T, setC L (q ++ [n]))), IntKind.i64.wrap ((i : Int) + 1)))) (by omega) (fun j hj => by
      have hd : decide ((Rg.getD k default).1 + (j : Int) ≤ (Rg.getD k default).2) = true := decT (by omega)
      have hsl : (setC L q).length = L.length := setC_len L q
      have hs := setC_snoc L q ((Rg.getD k default).1 + (j : Int)) (by omega)
      rw [hq] at hs
      have hgj : ((rngI (Rg.getD k default).1 (Rg.getD k default).2).map (fun n => (T, setC L (q ++ [n])))).getD j default = (T, setC L (q ++ [(Rg.getD k default).1 + (j : Int)])) := by
        have e := rng_take (Rg.getD k default).1 (Rg.getD k default).2 hj
        rw [List.getD_eq_getElem?_getD, List.getElem?_eq_getElem hj, Option.getD_some] at e
        rw [List.getD_eq_getElem?_getD, List.getElem?_map, List.getElem?_eq_getElem hj, Option.map_some, Option.getD_some, e]
      have hkS : k < (setC L q).length := by omega
      have hlen : (Lo ++ ((rngI (Rg.getD k default).1 (Rg.getD k default).2).map (fun n => (T, setC L (q ++ [n])))).take j).length ≤ 10004 := by simp; omega
      simp only [b122_3, if_pos (rgN hk), Int.toNat_natCast, hd, if_true, if_pos (rgN hi), hO, p19 T (setC L q) (by omega), bindC, if_pos (rgN hkS)]
      rw [if_pos ⟨by omega, by omega⟩, wI (by omega) (by omega), ← hs, take_getD (show j < ((rngI (Rg.getD k default).1 (Rg.getD k default).2).map (fun n => (T, setC L (q ++ [n])))).length by rw [List.length_map]; exact hj), hgj, List.append_assoc, Int.add_assoc]
      rfl) (by
      have hd : ¬ (decide ((Rg.getD k default).1 + ((rngI (Rg.getD k default).1 (Rg.getD k default).2).length : Int) ≤ (Rg.getD k default).2) = true) := by rw [decide_eq_true_eq, hlenN]; omega
      simp only [b122_3, if_pos (rgN hk), Int.toNat_natCast]
      rw [if_neg hd]
      rw [← List.length_map (f := fun n => (T, setC L (q ++ [n]))), List.take_length])
  simpa using key
def ldK (T : Int) (L : List (Int × Int × Int)) (Rg : List (Int × Int)) (k : Nat) : List (Int × List (Int × Int × Int)) := (chR Rg k).map fun q => (T, setC L q)
theorem loop122_2 (hr : ∀ r ∈ Rg, 1 ≤ r.1 ∧ r.1 ≤ r.2 ∧ r.2 ≤ 4) (hN : Rg.length = L.length) (hL : L.length ≤ 4) {k : Nat} (hk : k < Rg.length) :
    iterC (b122_2 Rg ((k : Int), ldK T L Rg k)) 1000000000 ([], 0) = some (.next (IntKind.i64.wrap ((k : Int) + 1), ldK T L Rg (k + 1))) := by
  obtain ⟨c1, c2⟩ := chR_spec hr k (by omega)
  have hg := hr _ (getD_mem hk)
  have hp : 4 ^ k ≤ 256 := by
    have : (4 : Nat) ^ k ≤ 4 ^ 4 := Nat.pow_le_pow_right (by omega) (by omega)
    simpa using this
  have hlen : (ldK T L Rg k).length = (chR Rg k).length := by simp [ldK]
  have hnx : ldK T L Rg (k + 1) = (chR Rg k).flatMap (fun p => (rngI (Rg.getD k default).1 (Rg.getD k default).2).map (fun n => (T, setC L (p ++ [n])))) := by
    unfold ldK
    rw [chR, List.map_flatMap]
    congr 1
    funext p
    rw [List.map_map]; rfl
  have key := iter_run (chR Rg k).length (b122_2 Rg ((k : Int), ldK T L Rg k)) (fun i => (((chR Rg k).take i).flatMap (fun p => (rngI (Rg.getD k default).1 (Rg.getD k default).2).map (fun n => (T, setC L (p ++ [n])))), (i : Int)))
    (some (.next (IntKind.i64.wrap ((k : Int) + 1), ldK T L Rg (k + 1)))) (by omega) (fun i hi => by
      have hil : i < (ldK T L Rg k).length := by omega
      have hm := getD_mem hi
      obtain ⟨q1, q2⟩ := c2 _ hm
      have hO : (ldK T L Rg k).getD i default = (T, setC L ((chR Rg k).getD i default)) := by
        simp only [ldK, List.getD_eq_getElem?_getD, List.getElem?_map, List.getElem?_eq_getElem hi]; rfl
      have hfl := flat_len (fun p => (rngI (Rg.getD k default).1 (Rg.getD k default).2).map (fun n => (T, setC L (p ++ [n])))) ((chR Rg k).take i) (fun a _ => by rw [List.length_map]; exact rngI_len hg.1 hg.2.2)
      have hti : ((chR Rg k).take i).length = i := by simp; omega
      simp only [b122_2, ltN hil, if_true, if_pos (rgN hk), Int.toNat_natCast]
      rw [loop122_3 (T := T) (L := L) k i hk (by omega) hL hil hO q1 hg (by omega), Option.getD_some, wS i (by omega), take_getD hi, List.flatMap_append]
      simp) (by
      unfold b122_2
      rw [if_neg (by simp [hlen])]
      simp only [List.take_length, ← hnx])
  simpa using key
theorem p122 (ok : Ok T L f H) (hr : ∀ r ∈ Rg, 1 ≤ r.1 ∧ r.1 ≤ r.2 ∧ r.2 ≤ 4) (hN : Rg.length = L.length) : r122 T L Rg = some (ldK T L Rg Rg.length) := by
  have hle := ok.lad.le
  unfold r122
  rw [p19 T L (by omega), Option.bind_some]
  have key := iter_run Rg.length (b122_1 Rg) (fun k => ((k : Int), ldK T L Rg k)) (some (ldK T L Rg Rg.length)) (by omega) (fun k hk => by
    simp only [b122_1, ltN hk, if_true]
    rw [loop122_2 hr hN hle hk, Option.getD_some, wS k (by omega)]
    rfl) (by
    unfold b122_1
    rw [if_neg (by simp)])
  have e0 : ldK T L Rg 0 = [(T, L)] := by simp [ldK, chR, setC_nil]
  simp only [e0] at key
  exact key
theorem loop65 (o : List (Int × Int)) (i : Nat) {W : List Int} {N : Nat} (hW : W.length = N) (hN : N ≤ 4) (h0 : i = 0 → o = []) (h1 : i ≠ 0 → o.length = N) : iterC (b65_2 (o, (i : Int)) W) 1000000000 (0, o) = some (.next (updL o W, IntKind.i64.wrap ((i : Int) + 1))) := by
  have key := iter_run W.length (b65_2 (o, (i : Int)) W) (fun j => ((j : Int), updL o (W.take j))) (some (Ctl.next (updL o W, IntKind.i64.wrap ((i : Int) + 1)))) (by omega) (fun j hj => by
    by_cases hi : i = 0
    · have ho := h0 hi
      subst ho
      subst hi
      have hlen : (updL [] (W.take j)).length = j := by rw [updL_len0]; simp; omega
      have e0 : (((0 : Nat) : Int) == 0) = true := by decide
      have e1 : ((updL [] (W.take j) ++ [((W.getD j default), (W.getD j default))]).length : Int) = (j : Int) + 1 := by
        rw [List.length_append, hlen]; simp
      have e2 : (updL [] (W.take j) ++ [((W.getD j default), (W.getD j default))]).getD j default = ((W.getD j default), (W.getD j default)) := by
        rw [List.getD_eq_getElem?_getD, List.getElem?_append_right (by omega), hlen, Nat.sub_self]; rfl
      have e3 : ∀ x : Int × Int, (updL [] (W.take j) ++ [((W.getD j default), (W.getD j default))]).set j x = updL [] (W.take j) ++ [x] := by
        intro x
        rw [List.set_append_right _ _ (by omega), hlen, Nat.sub_self]; rfl
      have g : (0 : Int) ≤ (j : Int) ∧ (j : Int) < (j : Int) + 1 := ⟨by omega, by omega⟩
      simp only [b65_2, ltN hj, if_true, if_pos (rgN hj), Int.toNat_natCast, wS j (by omega), e0, e1, e2, e3, if_pos g, hlen]
      rw [if_pos (show (j + 1) * 16 ≤ 140737488355328 ∧ j + 1 ≤ 9223372036854775807 by omega), take_getD hj, updL_snoc0]
      simp
    · have ho := h1 hi
      have hlen : (updL o (W.take j)).length = N := by rw [updL_lenN _ _ (by simp; omega), ho]
      have e0 : ((i : Int) == 0) = false := by simp; omega
      have hjN : j < N := by omega
      have ht : (W.take j).length = j := by simp; omega
      have hs := updL_snocN o (W.take j) (W.getD j default) (by omega)
      rw [ht] at hs
      simp only [b65_2, ltN hj, if_true, if_pos (rgN hj), Int.toNat_natCast, wS j (by omega), e0, Bool.false_eq_true, if_false, hlen, if_pos (rgN hjN)]
      rw [take_getD hj, hs]; rfl) (by
    unfold b65_2
    rw [if_neg (by simp)]
    simp only [List.take_length])
  simpa [updL_nil] using key
theorem p65 (ok : Ok T L f H) (cl : Cl Rg (reactV f L H) t) : r65 T L Rg f H t = some (full (watQ (reactV f L H) t) [] Rg []) := by
  have hrl := reactV_len f L H ok.hot
  have hl := cl.len
  have hle := cl.le
  obtain ⟨c1, _⟩ := chR_spec cl.r Rg.length (Nat.le_refl _)
  have hp : 4 ^ Rg.length ≤ 256 := by
    have : (4 : Nat) ^ Rg.length ≤ 4 ^ 4 := Nat.pow_le_pow_right (by omega) (by omega)
    simpa using this
  unfold r65
  rw [p122 ok cl.r (by omega), Option.bind_some, full_eq]
  have hlen : (ldK T L Rg Rg.length).length = (chR Rg Rg.length).length := by simp [ldK]
  have key := iter_run (chR Rg Rg.length).length (b65_1 f H t (ldK T L Rg Rg.length)) (fun i => (((chR Rg Rg.length).take i).foldl (fun o p => updL o (watQ (reactV f L H) t p)) [], (i : Int))) (some ((chR Rg Rg.length).foldl (fun o p => updL o (watQ (reactV f L H) t p)) [])) (by omega) (fun i hi => by
    have hil : i < (ldK T L Rg Rg.length).length := by omega
    have hm := getD_mem hi
    obtain ⟨q1, q2⟩ := chR_in4 cl.r hm
    have hO : (ldK T L Rg Rg.length).getD i default = (T, setC L ((chR Rg Rg.length).getD i default)) := by
      simp only [ldK, List.getD_eq_getElem?_getD, List.getElem?_map, List.getElem?_eq_getElem hi]; rfl
    have hw := p51 (setC_ok ok q2) cl.t0 cl.t1
    rw [setC_conds L _ (by omega), setC_react] at hw
    change _ = some (watQ (reactV f L H) t ((chR Rg Rg.length).getD i default)) at hw
    obtain ⟨_, w2⟩ := cl.w q2 (by omega)
    have hinv : ∀ j, j ≤ (chR Rg Rg.length).length → j ≠ 0 → (((chR Rg Rg.length).take j).foldl (fun o p => updL o (watQ (reactV f L H) t p)) []).length = (reactV f L H).length := by
      intro j hj hj0
      have h1 : InvR (reactV f L H).length (((chR Rg Rg.length).take (j - 1)).foldl (fun o p => updL o (watQ (reactV f L H) t p)) []) :=
        foldl_inv (InvR (reactV f L H).length) _ _ _ (.inl rfl) (fun p hp o ho => by
          obtain ⟨g1, g2⟩ := chR_in4 cl.r (List.mem_of_mem_take hp)
          exact .inr (updL_inv ho (cl.w g2 (by omega)).2))
      have hjl : j - 1 < (chR Rg Rg.length).length := by omega
      rw [show j = (j - 1) + 1 by omega, take_getD hjl, List.foldl_append]
      obtain ⟨g1, g2⟩ := chR_in4 cl.r (getD_mem hjl)
      exact updL_inv h1 (cl.w g2 (by omega)).2
    simp only [b65_1, ltN hil, if_true, if_pos (rgN hil), Int.toNat_natCast, hO, hw, bindC]
    rw [loop65 _ i w2 hle (fun h => by rw [h]; rfl) (fun h => hinv i (by omega) h), Option.getD_some, wS i (by omega), take_getD hi, List.foldl_append]
    rfl) (by
    unfold b65_1
    rw [if_neg (by simp [hlen])]
    simp only [List.take_length])
  simpa using key
theorem p64 (l : List (Int × Int)) (hl : l.length ≤ 1000000) : r64 l l = some true := by
  unfold r64
  rw [if_neg (by simp)]
  refine iter_run l.length (b64_1 l l) (fun i => (i : Int)) _ (by omega) (fun i hi => ?_) (by simp [b64_1])
  simp only [b64_1, ltN hi, if_true, if_pos (rgN hi), Int.toNat_natCast, wS i (by omega)]
  rw [if_neg (by simp)]; rfl
theorem p60 (T : Int) (L : List (Int × Int × Int)) (R : List (Int × Int)) (h : L.length ≤ 1000000) (hR : R.length ≤ 1000000) : r60 T L R = some (T, L, R) := by
  unfold r60
  rw [p19 T L h, Option.bind_some, if_pos ⟨by omega, by omega⟩]
theorem full_len (cl : Cl Rg X t) : (full (watQ X t) [] Rg []).length ≤ 4 := by
  have hp : In4 [] := fun c hc => absurd hc (by simp)
  have := full_inv cl Rg [] [] hp (by have := cl.len; simpa using this) cl.r (.inl rfl)
  have hle := cl.le
  rcases this with h | h
  · rw [h]; simp
  · omega
theorem classes (T : Int) (L : List (Int × Int × Int)) (R : List (Int × Int)) (f : Int) (H : List Bool) (t : Int) : r11 T L R f H t = some true := by
  unfold r11
  rw [awake, Option.bind_some, if_neg (by simp), p16, Option.bind_some, p17, gS, Option.getD_some]
  by_cases hf : ((!decide ((L.length : Int) ≤ 6)) || (!decide ((H.length : Int) ≤ 6)) || decide ((R.length : Int) > 6)) = true
  · rw [if_pos hf]
  · rw [if_neg hf]
    simp only [Bool.or_eq_true, Bool.not_eq_true', decide_eq_false_iff_not, decide_eq_true_eq, not_or, Decidable.not_not] at hf
    obtain ⟨i, hc⟩ := cls_eq T L R
    rw [p60 T L R (by omega) (by omega), Option.bind_some, p59 T L R (by omega), hc, Option.bind_some, p20 f H (by omega), Option.bind_some, p61 T L R f H t (by omega), Option.bind_some, p62 T L R (by omega), hc, Option.bind_some, if_neg (by simp)]
    by_cases h1 : clsE T L R = 0
    · have h1' : ¬ (clsE T L R ≠ 0) := by simpa using h1
      rw [if_pos (by simp [h1]), p63, Option.bind_some]
      simp only [if_neg h1']
      by_cases h2 : driveE L.length f H = 0
      · have h2' : ¬ (driveE L.length f H ≠ 0) := by simpa using h2
        rw [if_pos (by simp [h2]), p37, Option.bind_some]
        simp only [if_neg h2']
        cases ht : inR t 0 100000 with
        | false =>
          rw [if_pos (by simp [codeIf])]
          simp [codeIf]
        | true =>
          have it := inR_iff.1 ht
          obtain ⟨ok, cl⟩ := cl_of h1 h2 it.1 it.2
          have hfl := full_len cl
          rw [if_neg (by simp [codeIf]), p65 ok cl, gS]
          simp only [Option.getD_some, if_true]
          rw [p64 _ (by omega), gS]
          simp
      · rw [if_neg (by simp [h2]), if_pos (by simpa using h2)]
        simp [h2]
    · rw [if_neg (by simp [h1]), if_neg (by simp [h1]), if_pos (by simpa using h1)]
      simp [h1]
end Go.Proofs.Ytagnplbfdaifkaa

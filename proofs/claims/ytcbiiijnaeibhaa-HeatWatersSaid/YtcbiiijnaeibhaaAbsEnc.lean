/-
  Typed data: how lists and records lie in cells.
-/
import Derived.Test.YtcbiiijnaeibhaaAbsInl
set_option linter.unusedVariables false
set_option linter.unusedSimpArgs false
namespace Go.Abs

def encF {α : Type} [Inhabited α] (s : Nat) (f : α → List D) (l : List α) : D := .sl s l.length (fun i => f (l.getD i default))
def decF {α : Type} (g : List D → α) (x : D) : List α := (List.range x.len).map fun i => g (x.nth i)

def iD : List D → Int | [.int _ n] => n | _ => 0
def dI (n : Int) : List D := [.int .i64 n]
/-- a slice of int -/
def eI (l : List Int) : D := encF 1 dI l

structure TSpec (α : Type) where
  enc : α → List Arg
  dec : List Arg → α
  pre : α → Prop
  res : α → List RV
  al : Bool := false
def TSpec.sp {α : Type} (T : TSpec α) : FSpec := ⟨fun a => eqvArgs a (T.enc (T.dec a)) ∧ T.pre (T.dec a), fun a => T.res (T.dec a), T.al⟩

/-- A CONTRACT out of an abstract run, typed. -/
theorem valid_t {α : Type} {P : Program} {ty : Tys} {tb : Fns} {f : Nat} {fn : Func} {c : Code} {T : TSpec α} {n : Nat} (hty : TyOk P ty) (htb : FnsOk P tb) (hf : P.funcs[f]? = some fn) (hb : fn.body = some c) (hn : fn.ntmps = n)
    (h : ∀ x, T.pre x → (T.enc x).length ≤ n ∧ ∀ stop, Stop P ty tb n (drawn ty tb n) (finE ty fn.results.toList T.al (T.res x)) stop → stop [.code c] (St.begin (T.enc x))) : Valid P f T.sp :=
  valid_of hty htb hf hb hn (fun a => T.enc (T.dec a)) (fun _ ha => ⟨ha.1, (h _ ha.2).1, (h _ ha.2).2⟩)

theorem FnsOk.nil {P : Program} : FnsOk P (lk []) := fun _ _ h => by cases h
theorem FnsOk.cons {P : Program} {l : List (Nat × FSpec)} {f : Nat} {sp : FSpec} (hx : FnFact P f sp) (h : FnsOk P (lk l)) : FnsOk P (lk ((f, sp) :: l)) := fun g s hs => by
  simp only [lk] at hs
  split at hs
  · rename_i e; subst e; obtain rfl := Option.some.inj hs; exact hx
  · exact h g s hs

theorem encF_len {α : Type} [Inhabited α] (s : Nat) (f : α → List D) (l : List α) : (encF s f l).len = l.length := rfl
theorem encF_stride {α : Type} [Inhabited α] (s : Nat) (f : α → List D) (l : List α) : (encF s f l).stride = s := rfl
theorem encF_nth {α : Type} [Inhabited α] (s : Nat) (f : α → List D) (l : List α) (i : Nat) : (encF s f l).nth i = f (l.getD i default) := rfl
theorem encF_isSl {α : Type} [Inhabited α] (s : Nat) (f : α → List D) (l : List α) : (encF s f l).isSl = true := rfl
theorem decF_encF {α : Type} [Inhabited α] (g : List D → α) (s : Nat) (f : α → List D) (l : List α) (h : ∀ a, g (f a) = a) : decF g (encF s f l) = l := by
  simp only [decF, encF_len, encF_nth, h]
  apply List.ext_getElem (by simp)
  intro i h1 h2
  simp [List.getD_eq_getElem?_getD, h2]
theorem decF_ofList {α : Type} (g : List D → α) (s : Nat) (l : List (List D)) : decF g (D.ofList s l) = l.map g := by
  simp only [decF, D.ofList, D.len, D.nth]
  apply List.ext_getElem (by simp)
  intro i h1 h2
  simp at h2
  simp [List.getD_eq_getElem?_getD, h2]
theorem iD_dI (n : Int) : iD (dI n) = n := rfl
theorem dec_eI (l : List Int) : decF iD (eI l) = l := decF_encF _ _ _ _ iD_dI

/-- a slice built of some elements, as a list -/
theorem eqv_ofList {α : Type} [Inhabited α] {s : Nat} {f : α → List D} {l : List (List D)} {r : List α} (h : l = r.map f) : Eqv (D.ofList s l) (encF s f r) := by
  subst h
  refine EqvO.eqv (EqvO.of_nth rfl rfl rfl (by simp [D.ofList, D.len, encF]) (fun i hi => ?_))
  simp only [D.ofList, D.len, List.length_map] at hi
  simp [D.ofList, D.nth, encF, List.getD_eq_getElem?_getD, hi]

attribute [go_sem] List.map_cons List.map_nil true_and and_true beq_iff_eq implies_true imp_self or_true true_or or_false false_or and_self List.append_nil List.nil_append List.cons_append List.filterMap_nil List.filterMap_cons Option.toList_none Option.toList_some List.nodup_nil List.not_mem_nil List.length_cons List.length_nil List.getD_cons_zero List.getD_cons_succ not_false_eq_true false_implies true_implies cond_true cond_false List.zip_cons_cons List.zip_nil_left
attribute [go_sem] List.getElem?_cons_zero List.getElem?_cons_succ List.getElem?_nil List.all_cons List.all_nil Bool.and_true Bool.true_and Bool.and_self Bool.and_false Bool.false_and List.drop_zero List.drop_succ_cons List.drop_nil List.take_zero List.take_succ_cons List.take_nil and_false false_and Nat.zero_add List.getD_nil Nat.add_zero List.foldl_cons List.foldl_nil
theorem bif_and (a b : Bool) : (bif a then b else false) = (a && b) := by cases a <;> rfl
theorem bif_or (a b : Bool) : (bif a then true else b) = (a || b) := by cases a <;> rfl
theorem bne_true_iff (a b : Int) : ((a != b) = true) = (a ≠ b) := by simp
theorem bne_false_iff (a b : Int) : ((a != b) = false) = (a = b) := by simp
theorem dec_true_iff (p : Prop) [Decidable p] : (decide p = true) = p := by simp
theorem dec_false_iff (p : Prop) [Decidable p] : (decide p = false) = ¬p := by simp
attribute [go_sem] bif_and bif_or bne_true_iff bne_false_iff dec_true_iff dec_false_iff Int.toNat_natCast
theorem eqv_ofList_true {α : Type} [Inhabited α] {s : Nat} {f : α → List D} {l : List (List D)} {r : List α} (h : l = r.map f) : Eqv (D.ofList s l) (encF s f r) = True := eq_true (eqv_ofList h)
theorem sp_pre {α : Type} (T : TSpec α) (a : List Arg) : T.sp.pre a = (eqvArgs a (T.enc (T.dec a)) ∧ T.pre (T.dec a)) := rfl
theorem sp_res {α : Type} (T : TSpec α) (a : List Arg) : T.sp.res a = T.res (T.dec a) := rfl
theorem sp_alias {α : Type} (T : TSpec α) : T.sp.alias = T.al := rfl
attribute [go_sem] eqv_ofList_true sp_pre sp_res sp_alias drawn encF_len encF_stride encF_nth encF_isSl dI dec_eI decF_ofList iD
end Go.Abs

/- Lists in cells, written by wip/dec. -/
import Derived.Test.YthcpkkpjegldoaaDoorTy
import Derived.Test.YthcpkkpjegldoaaDoorAbsTac
import Derived.WalkKit
set_option linter.unusedVariables false
set_option linter.unusedSimpArgs false
set_option linter.constructorNameAsVariable false
set_option maxHeartbeats 4000000
set_option maxRecDepth 20000
namespace Go.Proofs.YthcpkkpjegldoaaDoor
open Go.Abs
attribute [go_sem] eqvO_can eqv_can can_cat can_cat0 can_ofList canW_ofList eqvLL can_setF can_set can_sub can_rep oneOne
theorem lapp_nil {α : Type} (r : List α) : List.append [] r = r := rfl
theorem lapp_cons {α : Type} (a : α) (l r : List α) : List.append (a :: l) r = a :: List.append l r := rfl
attribute [go_sem] lapp_nil lapp_cons
abbrev L_IIII := List (Int × Int × Int × Int)
def d_IIII (x : Int × Int × Int × Int) : List D := [.int .i64 x.1, .int .i64 x.2.1, .int .i64 x.2.2.1, .int .i64 x.2.2.2]
theorem dq_IIII (x : Int × Int × Int × Int) : d_IIII x = [.int .i64 x.1, .int .i64 x.2.1, .int .i64 x.2.2.1, .int .i64 x.2.2.2] := by rw [d_IIII]
def g_IIII : List D → Int × Int × Int × Int
  | [.int _ a, .int _ b, .int _ c, .int _ d] => (a, b, c, d)
  | _ => default
theorem gd_IIII (x : Int × Int × Int × Int) : g_IIII (d_IIII x) = x := by rfl
theorem dec_IIII (l : List (Int × Int × Int × Int)) : decF g_IIII (encF 4 d_IIII l) = l := decF_encF _ _ _ _ gd_IIII
theorem fl_IIII (l : List (Int × Int × Int × Int)) : (encF 4 d_IIII l).flat = True := flat_enc (fun _ => rfl)
attribute [go_sem] dq_IIII g_IIII dec_IIII fl_IIII
theorem dp_IIII (o : Option (Int × Int × Int × Int)) : decP g_IIII (.pt o.isSome [.int .i64 (o.getD default).1, .int .i64 (o.getD default).2.1, .int .i64 (o.getD default).2.2.1, .int .i64 (o.getD default).2.2.2]) = o := by have := decP_encP gd_IIII o; rwa [dq_IIII] at this
attribute [go_sem] dp_IIII
abbrev L_LIIIIE := List ((List (Int × Int × Int × Int)))
def d_LIIIIE (x : L_IIII) : List D := [encF 4 d_IIII x]
theorem dq_LIIIIE (x : L_IIII) : d_LIIIIE x = [encF 4 d_IIII x] := by rw [d_LIIIIE]
def g_LIIIIE : List D → L_IIII
  | [a] => decF g_IIII a
  | _ => default
theorem gd_LIIIIE (x : L_IIII) : g_LIIIIE (d_LIIIIE x) = x := by simp only [g_LIIIIE, d_LIIIIE, dec_IIII]
theorem dec_LIIIIE (l : List (L_IIII)) : decF g_LIIIIE (encF 1 d_LIIIIE l) = l := decF_encF _ _ _ _ gd_LIIIIE
attribute [go_sem] dq_LIIIIE g_LIIIIE dec_LIIIIE
abbrev L_IIIII := List (Int × Int × Int × Int × Int)
def d_IIIII (x : Int × Int × Int × Int × Int) : List D := [.int .i64 x.1, .int .i64 x.2.1, .int .i64 x.2.2.1, .int .i64 x.2.2.2.1, .int .i64 x.2.2.2.2]
theorem dq_IIIII (x : Int × Int × Int × Int × Int) : d_IIIII x = [.int .i64 x.1, .int .i64 x.2.1, .int .i64 x.2.2.1, .int .i64 x.2.2.2.1, .int .i64 x.2.2.2.2] := by rw [d_IIIII]
def g_IIIII : List D → Int × Int × Int × Int × Int
  | [.int _ a, .int _ b, .int _ c, .int _ d, .int _ e] => (a, b, c, d, e)
  | _ => default
theorem gd_IIIII (x : Int × Int × Int × Int × Int) : g_IIIII (d_IIIII x) = x := by rfl
theorem dec_IIIII (l : List (Int × Int × Int × Int × Int)) : decF g_IIIII (encF 5 d_IIIII l) = l := decF_encF _ _ _ _ gd_IIIII
theorem fl_IIIII (l : List (Int × Int × Int × Int × Int)) : (encF 5 d_IIIII l).flat = True := flat_enc (fun _ => rfl)
attribute [go_sem] dq_IIIII g_IIIII dec_IIIII fl_IIIII
theorem dp_IIIII (o : Option (Int × Int × Int × Int × Int)) : decP g_IIIII (.pt o.isSome [.int .i64 (o.getD default).1, .int .i64 (o.getD default).2.1, .int .i64 (o.getD default).2.2.1, .int .i64 (o.getD default).2.2.2.1, .int .i64 (o.getD default).2.2.2.2]) = o := by have := decP_encP gd_IIIII o; rwa [dq_IIIII] at this
attribute [go_sem] dp_IIIII
abbrev L_LIIIIIE := List ((List (Int × Int × Int × Int × Int)))
def d_LIIIIIE (x : L_IIIII) : List D := [encF 5 d_IIIII x]
theorem dq_LIIIIIE (x : L_IIIII) : d_LIIIIIE x = [encF 5 d_IIIII x] := by rw [d_LIIIIIE]
def g_LIIIIIE : List D → L_IIIII
  | [a] => decF g_IIIII a
  | _ => default
theorem gd_LIIIIIE (x : L_IIIII) : g_LIIIIIE (d_LIIIIIE x) = x := by simp only [g_LIIIIIE, d_LIIIIIE, dec_IIIII]
theorem dec_LIIIIIE (l : List (L_IIIII)) : decF g_LIIIIIE (encF 1 d_LIIIIIE l) = l := decF_encF _ _ _ _ gd_LIIIIIE
attribute [go_sem] dq_LIIIIIE g_LIIIIIE dec_LIIIIIE
abbrev L_III := List (Int × Int × Int)
def d_III (x : Int × Int × Int) : List D := [.int .i64 x.1, .int .i64 x.2.1, .int .i64 x.2.2]
theorem dq_III (x : Int × Int × Int) : d_III x = [.int .i64 x.1, .int .i64 x.2.1, .int .i64 x.2.2] := by rw [d_III]
def g_III : List D → Int × Int × Int
  | [.int _ a, .int _ b, .int _ c] => (a, b, c)
  | _ => default
theorem gd_III (x : Int × Int × Int) : g_III (d_III x) = x := by rfl
theorem dec_III (l : List (Int × Int × Int)) : decF g_III (encF 3 d_III l) = l := decF_encF _ _ _ _ gd_III
theorem fl_III (l : List (Int × Int × Int)) : (encF 3 d_III l).flat = True := flat_enc (fun _ => rfl)
attribute [go_sem] dq_III g_III dec_III fl_III
theorem dp_III (o : Option (Int × Int × Int)) : decP g_III (.pt o.isSome [.int .i64 (o.getD default).1, .int .i64 (o.getD default).2.1, .int .i64 (o.getD default).2.2]) = o := by have := decP_encP gd_III o; rwa [dq_III] at this
attribute [go_sem] dp_III
abbrev L_LIIIE := List ((List (Int × Int × Int)))
def d_LIIIE (x : L_III) : List D := [encF 3 d_III x]
theorem dq_LIIIE (x : L_III) : d_LIIIE x = [encF 3 d_III x] := by rw [d_LIIIE]
def g_LIIIE : List D → L_III
  | [a] => decF g_III a
  | _ => default
theorem gd_LIIIE (x : L_III) : g_LIIIE (d_LIIIE x) = x := by simp only [g_LIIIE, d_LIIIE, dec_III]
theorem dec_LIIIE (l : List (L_III)) : decF g_LIIIE (encF 1 d_LIIIE l) = l := decF_encF _ _ _ _ gd_LIIIE
attribute [go_sem] dq_LIIIE g_LIIIE dec_LIIIE
abbrev L_II := List (Int × Int)
def d_II (x : Int × Int) : List D := [.int .i64 x.1, .int .i64 x.2]
theorem dq_II (x : Int × Int) : d_II x = [.int .i64 x.1, .int .i64 x.2] := by rw [d_II]
def g_II : List D → Int × Int
  | [.int _ a, .int _ b] => (a, b)
  | _ => default
theorem gd_II (x : Int × Int) : g_II (d_II x) = x := by rfl
theorem dec_II (l : List (Int × Int)) : decF g_II (encF 2 d_II l) = l := decF_encF _ _ _ _ gd_II
theorem fl_II (l : List (Int × Int)) : (encF 2 d_II l).flat = True := flat_enc (fun _ => rfl)
attribute [go_sem] dq_II g_II dec_II fl_II
theorem dp_II (o : Option (Int × Int)) : decP g_II (.pt o.isSome [.int .i64 (o.getD default).1, .int .i64 (o.getD default).2]) = o := by have := decP_encP gd_II o; rwa [dq_II] at this
attribute [go_sem] dp_II
abbrev L_LIIE := List ((List (Int × Int)))
def d_LIIE (x : L_II) : List D := [encF 2 d_II x]
theorem dq_LIIE (x : L_II) : d_LIIE x = [encF 2 d_II x] := by rw [d_LIIE]
def g_LIIE : List D → L_II
  | [a] => decF g_II a
  | _ => default
theorem gd_LIIE (x : L_II) : g_LIIE (d_LIIE x) = x := by simp only [g_LIIE, d_LIIE, dec_II]
theorem dec_LIIE (l : List (L_II)) : decF g_LIIE (encF 1 d_LIIE l) = l := decF_encF _ _ _ _ gd_LIIE
attribute [go_sem] dq_LIIE g_LIIE dec_LIIE
abbrev L_I := List (Int)
def d_I (x : Int) : List D := [.int .i64 x]
theorem dq_I (x : Int) : d_I x = [.int .i64 x] := by rw [d_I]
def g_I : List D → Int
  | [.int _ a] => a
  | _ => default
theorem gd_I (x : Int) : g_I (d_I x) = x := by rfl
theorem dec_I (l : List (Int)) : decF g_I (encF 1 d_I l) = l := decF_encF _ _ _ _ gd_I
theorem fl_I (l : List (Int)) : (encF 1 d_I l).flat = True := flat_enc (fun _ => rfl)
attribute [go_sem] dq_I g_I dec_I fl_I
abbrev L_ILIIEI := List (Int × (List (Int × Int)) × Int)
def d_ILIIEI (x : Int × L_II × Int) : List D := [.int .i64 x.1, encF 2 d_II x.2.1, .int .i64 x.2.2]
theorem dq_ILIIEI (x : Int × L_II × Int) : d_ILIIEI x = [.int .i64 x.1, encF 2 d_II x.2.1, .int .i64 x.2.2] := by rw [d_ILIIEI]
def g_ILIIEI : List D → Int × L_II × Int
  | [.int _ a, b, .int _ c] => (a, decF g_II b, c)
  | _ => default
theorem gd_ILIIEI (x : Int × L_II × Int) : g_ILIIEI (d_ILIIEI x) = x := by simp only [g_ILIIEI, d_ILIIEI, dec_II]
theorem dec_ILIIEI (l : List (Int × L_II × Int)) : decF g_ILIIEI (encF 3 d_ILIIEI l) = l := decF_encF _ _ _ _ gd_ILIIEI
attribute [go_sem] dq_ILIIEI g_ILIIEI dec_ILIIEI
theorem dp_ILIIEI (o : Option (Int × L_II × Int)) : decP g_ILIIEI (.pt o.isSome [.int .i64 (o.getD default).1, encF 2 d_II (o.getD default).2.1, .int .i64 (o.getD default).2.2]) = o := by have := decP_encP gd_ILIIEI o; rwa [dq_ILIIEI] at this
attribute [go_sem] dp_ILIIEI
abbrev L_LILIIEIE := List ((List (Int × (List (Int × Int)) × Int)))
def d_LILIIEIE (x : L_ILIIEI) : List D := [encF 3 d_ILIIEI x]
theorem dq_LILIIEIE (x : L_ILIIEI) : d_LILIIEIE x = [encF 3 d_ILIIEI x] := by rw [d_LILIIEIE]
def g_LILIIEIE : List D → L_ILIIEI
  | [a] => decF g_ILIIEI a
  | _ => default
theorem gd_LILIIEIE (x : L_ILIIEI) : g_LILIIEIE (d_LILIIEIE x) = x := by simp only [g_LILIIEIE, d_LILIIEIE, dec_ILIIEI]
theorem dec_LILIIEIE (l : List (L_ILIIEI)) : decF g_LILIIEIE (encF 1 d_LILIIEIE l) = l := decF_encF _ _ _ _ gd_LILIIEIE
attribute [go_sem] dq_LILIIEIE g_LILIIEIE dec_LILIIEIE
abbrev L_B := List (Bool)
def d_B (x : Bool) : List D := [.bool x]
theorem dq_B (x : Bool) : d_B x = [.bool x] := by rw [d_B]
def g_B : List D → Bool
  | [.bool a] => a
  | _ => default
theorem gd_B (x : Bool) : g_B (d_B x) = x := by rfl
theorem dec_B (l : List (Bool)) : decF g_B (encF 1 d_B l) = l := decF_encF _ _ _ _ gd_B
theorem fl_B (l : List (Bool)) : (encF 1 d_B l).flat = True := flat_enc (fun _ => rfl)
attribute [go_sem] dq_B g_B dec_B fl_B
abbrev L_LIE := List ((List (Int)))
def d_LIE (x : L_I) : List D := [encF 1 d_I x]
theorem dq_LIE (x : L_I) : d_LIE x = [encF 1 d_I x] := by rw [d_LIE]
def g_LIE : List D → L_I
  | [a] => decF g_I a
  | _ => default
theorem gd_LIE (x : L_I) : g_LIE (d_LIE x) = x := by simp only [g_LIE, d_LIE, dec_I]
theorem dec_LIE (l : List (L_I)) : decF g_LIE (encF 1 d_LIE l) = l := decF_encF _ _ _ _ gd_LIE
attribute [go_sem] dq_LIE g_LIE dec_LIE
abbrev L_SIII := List (ByteArray × Int × Int × Int)
def d_SIII (x : ByteArray × Int × Int × Int) : List D := [.str x.1, .int .i64 x.2.1, .int .i64 x.2.2.1, .int .i64 x.2.2.2]
theorem dq_SIII (x : ByteArray × Int × Int × Int) : d_SIII x = [.str x.1, .int .i64 x.2.1, .int .i64 x.2.2.1, .int .i64 x.2.2.2] := by rw [d_SIII]
def g_SIII : List D → ByteArray × Int × Int × Int
  | [.str a, .int _ b, .int _ c, .int _ d] => (a, b, c, d)
  | _ => default
theorem gd_SIII (x : ByteArray × Int × Int × Int) : g_SIII (d_SIII x) = x := by rfl
theorem dec_SIII (l : List (ByteArray × Int × Int × Int)) : decF g_SIII (encF 4 d_SIII l) = l := decF_encF _ _ _ _ gd_SIII
theorem fl_SIII (l : List (ByteArray × Int × Int × Int)) : (encF 4 d_SIII l).flat = True := flat_enc (fun _ => rfl)
attribute [go_sem] dq_SIII g_SIII dec_SIII fl_SIII
abbrev L_LSIIIE := List ((List (ByteArray × Int × Int × Int)))
def d_LSIIIE (x : L_SIII) : List D := [encF 4 d_SIII x]
theorem dq_LSIIIE (x : L_SIII) : d_LSIIIE x = [encF 4 d_SIII x] := by rw [d_LSIIIE]
def g_LSIIIE : List D → L_SIII
  | [a] => decF g_SIII a
  | _ => default
theorem gd_LSIIIE (x : L_SIII) : g_LSIIIE (d_LSIIIE x) = x := by simp only [g_LSIIIE, d_LSIIIE, dec_SIII]
theorem dec_LSIIIE (l : List (L_SIII)) : decF g_LSIIIE (encF 1 d_LSIIIE l) = l := decF_encF _ _ _ _ gd_LSIIIE
attribute [go_sem] dq_LSIIIE g_LSIIIE dec_LSIIIE
abbrev L_S := List (ByteArray)
def d_S (x : ByteArray) : List D := [.str x]
theorem dq_S (x : ByteArray) : d_S x = [.str x] := by rw [d_S]
def g_S : List D → ByteArray
  | [.str a] => a
  | _ => default
theorem gd_S (x : ByteArray) : g_S (d_S x) = x := by rfl
theorem dec_S (l : List (ByteArray)) : decF g_S (encF 1 d_S l) = l := decF_encF _ _ _ _ gd_S
theorem fl_S (l : List (ByteArray)) : (encF 1 d_S l).flat = True := flat_enc (fun _ => rfl)
attribute [go_sem] dq_S g_S dec_S fl_S
attribute [go_sem] encP Option.isSome_none
theorem hasD_S (l : List ByteArray) (s : ByteArray) : hasD (encF 1 d_S l) s = l.any fun t => decide (s = t) := hasD_enc (fun _ => rfl) l s
attribute [go_sem] hasD_S
theorem w0 : (IntKind.i64.wrap (0 + 1)) = 1 := by first | rfl | decide | simp
theorem w1 : (decide ((0 : Int) < 4)) = true := by first | rfl | decide | simp
theorem w2 : (decide ((1 : Int) < 4)) = true := by first | rfl | decide | simp
theorem w3 : (((1 : Int) = 0 ∨ (0 : Int) < 1)) = True := by first | rfl | decide | simp
theorem w4 : (IntKind.i64.wrap (1 + 1)) = 2 := by first | rfl | decide | simp
theorem w5 : (decide ((2 : Int) < 4)) = true := by first | rfl | decide | simp
theorem w6 : (((2 : Int) = 0 ∨ (0 : Int) < 2)) = True := by first | rfl | decide | simp
theorem w7 : (IntKind.i64.wrap (2 + 1)) = 3 := by first | rfl | decide | simp
theorem w8 : (decide ((3 : Int) < 4)) = true := by first | rfl | decide | simp
theorem w9 : (((3 : Int) = 0 ∨ (0 : Int) < 3)) = True := by first | rfl | decide | simp
theorem w10 : (IntKind.i64.wrap (3 + 1)) = 4 := by first | rfl | decide | simp
theorem w11 : (decide ((4 : Int) < 4)) = false := by first | rfl | decide | simp
theorem w12 : (decide ((0 : Int) ≥ 0)) = true := by first | rfl | decide | simp
theorem w13 : (((3 : Nat) : Int)) = 3 := by first | rfl | decide | simp
theorem w14 : (decide ((0 : Int) < 3)) = true := by first | rfl | decide | simp
theorem w15 : (decide ((1 : Int) < 3)) = true := by first | rfl | decide | simp
theorem w16 : (decide ((2 : Int) < 3)) = true := by first | rfl | decide | simp
theorem w17 : (decide ((3 : Int) < 3)) = false := by first | rfl | decide | simp
theorem w18 : (decide ((0 : Int) < 7)) = true := by first | rfl | decide | simp
theorem w19 : (decide ((1 : Int) < 7)) = true := by first | rfl | decide | simp
theorem w20 : (decide ((2 : Int) < 7)) = true := by first | rfl | decide | simp
theorem w21 : (decide ((3 : Int) < 7)) = true := by first | rfl | decide | simp
theorem w22 : (decide ((4 : Int) < 7)) = true := by first | rfl | decide | simp
theorem w23 : (((4 : Int) = 0 ∨ (0 : Int) < 4)) = True := by first | rfl | decide | simp
theorem w24 : (IntKind.i64.wrap (4 + 1)) = 5 := by first | rfl | decide | simp
theorem w25 : (decide ((5 : Int) < 7)) = true := by first | rfl | decide | simp
theorem w26 : (((5 : Int) = 0 ∨ (0 : Int) < 5)) = True := by first | rfl | decide | simp
theorem w27 : (IntKind.i64.wrap (5 + 1)) = 6 := by first | rfl | decide | simp
theorem w28 : (decide ((6 : Int) < 7)) = true := by first | rfl | decide | simp
theorem w29 : (((6 : Int) = 0 ∨ (0 : Int) < 6)) = True := by first | rfl | decide | simp
theorem w30 : (IntKind.i64.wrap (6 + 1)) = 7 := by first | rfl | decide | simp
theorem w31 : (decide ((7 : Int) < 7)) = false := by first | rfl | decide | simp
theorem w32 : ((((0 : Int)) == 0)) = true := by first | rfl | decide | simp
theorem w33 : (decide ((0 : Int) < 0)) = false := by first | rfl | decide | simp
attribute [go_sem] w0 w1 w2 w3 w4 w5 w6 w7 w8 w9 w10 w11 w12 w13 w14 w15 w16 w17 w18 w19 w20 w21 w22 w23 w24 w25 w26 w27 w28 w29 w30 w31 w32 w33
def u0 {γ : Type} (f : γ) : Unit → γ := fun _ => f
def u1 {a γ : Type} (f : a → γ) : a → γ := f
def u2 {a0 a1 γ : Type} (f : a0 → a1 → γ) : a0 × a1 → γ := fun ⟨x0, x1⟩ => f x0 x1
def u3 {a0 a1 a2 γ : Type} (f : a0 → a1 → a2 → γ) : a0 × a1 × a2 → γ := fun ⟨x0, x1, x2⟩ => f x0 x1 x2
def u4 {a0 a1 a2 a3 γ : Type} (f : a0 → a1 → a2 → a3 → γ) : a0 × a1 × a2 × a3 → γ := fun ⟨x0, x1, x2, x3⟩ => f x0 x1 x2 x3
def u5 {a0 a1 a2 a3 a4 γ : Type} (f : a0 → a1 → a2 → a3 → a4 → γ) : a0 × a1 × a2 × a3 × a4 → γ := fun ⟨x0, x1, x2, x3, x4⟩ => f x0 x1 x2 x3 x4
def u6 {a0 a1 a2 a3 a4 a5 γ : Type} (f : a0 → a1 → a2 → a3 → a4 → a5 → γ) : a0 × a1 × a2 × a3 × a4 × a5 → γ := fun ⟨x0, x1, x2, x3, x4, x5⟩ => f x0 x1 x2 x3 x4 x5
def u7 {a0 a1 a2 a3 a4 a5 a6 γ : Type} (f : a0 → a1 → a2 → a3 → a4 → a5 → a6 → γ) : a0 × a1 × a2 × a3 × a4 × a5 × a6 → γ := fun ⟨x0, x1, x2, x3, x4, x5, x6⟩ => f x0 x1 x2 x3 x4 x5 x6
def u8 {a0 a1 a2 a3 a4 a5 a6 a7 γ : Type} (f : a0 → a1 → a2 → a3 → a4 → a5 → a6 → a7 → γ) : a0 × a1 × a2 × a3 × a4 × a5 × a6 × a7 → γ := fun ⟨x0, x1, x2, x3, x4, x5, x6, x7⟩ => f x0 x1 x2 x3 x4 x5 x6 x7
def u9 {a0 a1 a2 a3 a4 a5 a6 a7 a8 γ : Type} (f : a0 → a1 → a2 → a3 → a4 → a5 → a6 → a7 → a8 → γ) : a0 × a1 × a2 × a3 × a4 × a5 × a6 × a7 × a8 → γ := fun ⟨x0, x1, x2, x3, x4, x5, x6, x7, x8⟩ => f x0 x1 x2 x3 x4 x5 x6 x7 x8
def u14 {a0 a1 a2 a3 a4 a5 a6 a7 a8 a9 a10 a11 a12 a13 γ : Type} (f : a0 → a1 → a2 → a3 → a4 → a5 → a6 → a7 → a8 → a9 → a10 → a11 → a12 → a13 → γ) : a0 × a1 × a2 × a3 × a4 × a5 × a6 × a7 × a8 × a9 × a10 × a11 × a12 × a13 → γ := fun ⟨x0, x1, x2, x3, x4, x5, x6, x7, x8, x9, x10, x11, x12, x13⟩ => f x0 x1 x2 x3 x4 x5 x6 x7 x8 x9 x10 x11 x12 x13
def u15 {a0 a1 a2 a3 a4 a5 a6 a7 a8 a9 a10 a11 a12 a13 a14 γ : Type} (f : a0 → a1 → a2 → a3 → a4 → a5 → a6 → a7 → a8 → a9 → a10 → a11 → a12 → a13 → a14 → γ) : a0 × a1 × a2 × a3 × a4 × a5 × a6 × a7 × a8 × a9 × a10 × a11 × a12 × a13 × a14 → γ := fun ⟨x0, x1, x2, x3, x4, x5, x6, x7, x8, x9, x10, x11, x12, x13, x14⟩ => f x0 x1 x2 x3 x4 x5 x6 x7 x8 x9 x10 x11 x12 x13 x14
def u16 {a0 a1 a2 a3 a4 a5 a6 a7 a8 a9 a10 a11 a12 a13 a14 a15 γ : Type} (f : a0 → a1 → a2 → a3 → a4 → a5 → a6 → a7 → a8 → a9 → a10 → a11 → a12 → a13 → a14 → a15 → γ) : a0 × a1 × a2 × a3 × a4 × a5 × a6 × a7 × a8 × a9 × a10 × a11 × a12 × a13 × a14 × a15 → γ := fun ⟨x0, x1, x2, x3, x4, x5, x6, x7, x8, x9, x10, x11, x12, x13, x14, x15⟩ => f x0 x1 x2 x3 x4 x5 x6 x7 x8 x9 x10 x11 x12 x13 x14 x15
def u19 {a0 a1 a2 a3 a4 a5 a6 a7 a8 a9 a10 a11 a12 a13 a14 a15 a16 a17 a18 γ : Type} (f : a0 → a1 → a2 → a3 → a4 → a5 → a6 → a7 → a8 → a9 → a10 → a11 → a12 → a13 → a14 → a15 → a16 → a17 → a18 → γ) : a0 × a1 × a2 × a3 × a4 × a5 × a6 × a7 × a8 × a9 × a10 × a11 × a12 × a13 × a14 × a15 × a16 × a17 × a18 → γ := fun ⟨x0, x1, x2, x3, x4, x5, x6, x7, x8, x9, x10, x11, x12, x13, x14, x15, x16, x17, x18⟩ => f x0 x1 x2 x3 x4 x5 x6 x7 x8 x9 x10 x11 x12 x13 x14 x15 x16 x17 x18
def u22 {a0 a1 a2 a3 a4 a5 a6 a7 a8 a9 a10 a11 a12 a13 a14 a15 a16 a17 a18 a19 a20 a21 γ : Type} (f : a0 → a1 → a2 → a3 → a4 → a5 → a6 → a7 → a8 → a9 → a10 → a11 → a12 → a13 → a14 → a15 → a16 → a17 → a18 → a19 → a20 → a21 → γ) : a0 × a1 × a2 × a3 × a4 × a5 × a6 × a7 × a8 × a9 × a10 × a11 × a12 × a13 × a14 × a15 × a16 × a17 × a18 × a19 × a20 × a21 → γ := fun ⟨x0, x1, x2, x3, x4, x5, x6, x7, x8, x9, x10, x11, x12, x13, x14, x15, x16, x17, x18, x19, x20, x21⟩ => f x0 x1 x2 x3 x4 x5 x6 x7 x8 x9 x10 x11 x12 x13 x14 x15 x16 x17 x18 x19 x20 x21
attribute [go_sem] u0 u1 u2 u3 u4 u5 u6 u7 u8 u9 u14 u15 u16 u19 u22
section
variable {β : Type} [Inhabited β] (u : β → List RV) (al : Bool)
abbrev qF0 (β : Type) := β
def qw0 : List Arg := []
def qd0 (a : List Arg) := ()
def qp0 {β : Type} (f : qF0 β) := f 
abbrev qt0 : List Arg := []
def qT0 (r : qF0 (Option β)) := mkT (u0 qw0) qd0 (u0 r) u al
theorem qP0 (r : qF0 (Option β)) : PT (qT0 u al r).sp u (qt0) (qp0 qw0) (qp0 r) := ⟨rfl, rfl⟩
theorem qa0 (r : qF0 (Option β)) : (qT0 u al r).sp.alias = al := rfl
attribute [go_sem] qw0 qp0 qt0 qP0 qa0
abbrev qF1 (β : Type) := L_IIII → L_IIIII → L_III → L_II → Int → Int → Int → Int → β
def qw1 (a0 : L_IIII) (a1 : L_IIIII) (a2 : L_III) (a3 : L_II) (a4 a5 a6 a7 : Int) : List Arg := [.agg [encF 4 d_IIII a0, encF 5 d_IIIII a1, encF 3 d_III a2, encF 2 d_II a3, .int .i64 a4, .int .i64 a5, .int .i64 a6, .int .i64 a7]]
def qd1 (a : List Arg) := (decF g_IIII (aCell a 0 0), decF g_IIIII (aCell a 0 1), decF g_III (aCell a 0 2), decF g_II (aCell a 0 3), dInt (aCell a 0 4), dInt (aCell a 0 5), dInt (aCell a 0 6), dInt (aCell a 0 7))
def qp1 {β : Type} (f : qF1 β) (c0 c1 c2 c3 c4 c5 c6 c7 : D) := f (decF g_IIII c0) (decF g_IIIII c1) (decF g_III c2) (decF g_II c3) (dInt c4) (dInt c5) (dInt c6) (dInt c7)
abbrev qt1 (c0 c1 c2 c3 c4 c5 c6 c7 : D) : List Arg := [.agg [c0, c1, c2, c3, c4, c5, c6, c7]]
def qT1 (r : qF1 (Option β)) := mkT (u8 qw1) qd1 (u8 r) u al
theorem qP1 (r : qF1 (Option β)) (c0 c1 c2 c3 c4 c5 c6 c7 : D) : PT (qT1 u al r).sp u (qt1 c0 c1 c2 c3 c4 c5 c6 c7) (qp1 qw1 c0 c1 c2 c3 c4 c5 c6 c7) (qp1 r c0 c1 c2 c3 c4 c5 c6 c7) := ⟨rfl, rfl⟩
theorem qa1 (r : qF1 (Option β)) : (qT1 u al r).sp.alias = al := rfl
attribute [go_sem] qw1 qp1 qt1 qP1 qa1
abbrev qF2 (β : Type) := Int → Int → Int → β
def qw2 (a0 a1 a2 : Int) : List Arg := [.c (.int .i64 a0), .c (.int .i64 a1), .c (.int .i64 a2)]
def qd2 (a : List Arg) := (dInt (aCell a 0 0), dInt (aCell a 1 0), dInt (aCell a 2 0))
def qp2 {β : Type} (f : qF2 β) (c0 c1 c2 : D) := f (dInt c0) (dInt c1) (dInt c2)
abbrev qt2 (c0 c1 c2 : D) : List Arg := [.c c0, .c c1, .c c2]
def qT2 (r : qF2 (Option β)) := mkT (u3 qw2) qd2 (u3 r) u al
theorem qP2 (r : qF2 (Option β)) (c0 c1 c2 : D) : PT (qT2 u al r).sp u (qt2 c0 c1 c2) (qp2 qw2 c0 c1 c2) (qp2 r c0 c1 c2) := ⟨rfl, rfl⟩
theorem qa2 (r : qF2 (Option β)) : (qT2 u al r).sp.alias = al := rfl
attribute [go_sem] qw2 qp2 qt2 qP2 qa2
abbrev qF3 (β : Type) := Int → β
def qw3 (a0 : Int) : List Arg := [.c (.int .i64 a0)]
def qd3 (a : List Arg) := dInt (aCell a 0 0)
def qp3 {β : Type} (f : qF3 β) (c0 : D) := f (dInt c0)
abbrev qt3 (c0 : D) : List Arg := [.c c0]
def qT3 (r : qF3 (Option β)) := mkT (u1 qw3) qd3 (u1 r) u al
theorem qP3 (r : qF3 (Option β)) (c0 : D) : PT (qT3 u al r).sp u (qt3 c0) (qp3 qw3 c0) (qp3 r c0) := ⟨rfl, rfl⟩
theorem qa3 (r : qF3 (Option β)) : (qT3 u al r).sp.alias = al := rfl
attribute [go_sem] qw3 qp3 qt3 qP3 qa3
abbrev qF4 (β : Type) := Int → Int → β
def qw4 (a0 a1 : Int) : List Arg := [.agg [.int .i64 a0, .int .i64 a1]]
def qd4 (a : List Arg) := (dInt (aCell a 0 0), dInt (aCell a 0 1))
def qp4 {β : Type} (f : qF4 β) (c0 c1 : D) := f (dInt c0) (dInt c1)
abbrev qt4 (c0 c1 : D) : List Arg := [.agg [c0, c1]]
def qT4 (r : qF4 (Option β)) := mkT (u2 qw4) qd4 (u2 r) u al
theorem qP4 (r : qF4 (Option β)) (c0 c1 : D) : PT (qT4 u al r).sp u (qt4 c0 c1) (qp4 qw4 c0 c1) (qp4 r c0 c1) := ⟨rfl, rfl⟩
theorem qa4 (r : qF4 (Option β)) : (qT4 u al r).sp.alias = al := rfl
attribute [go_sem] qw4 qp4 qt4 qP4 qa4
abbrev qF6 (β : Type) := L_I → β
def qw6 (a0 : L_I) : List Arg := [.c (encF 1 d_I a0)]
def qd6 (a : List Arg) := decF g_I (aCell a 0 0)
def qp6 {β : Type} (f : qF6 β) (c0 : D) := f (decF g_I c0)
abbrev qt6 (c0 : D) : List Arg := [.c c0]
def qT6 (r : qF6 (Option β)) := mkT (u1 qw6) qd6 (u1 r) u al
theorem qP6 (r : qF6 (Option β)) (c0 : D) : PT (qT6 u al r).sp u (qt6 c0) (qp6 qw6 c0) (qp6 r c0) := ⟨rfl, rfl⟩
theorem qa6 (r : qF6 (Option β)) : (qT6 u al r).sp.alias = al := rfl
attribute [go_sem] qw6 qp6 qt6 qP6 qa6
abbrev qF9 (β : Type) := Int → Int → β
def qw9 (a0 a1 : Int) : List Arg := [.c (.int .i64 a0), .c (.int .i64 a1)]
def qd9 (a : List Arg) := (dInt (aCell a 0 0), dInt (aCell a 1 0))
def qp9 {β : Type} (f : qF9 β) (c0 c1 : D) := f (dInt c0) (dInt c1)
abbrev qt9 (c0 c1 : D) : List Arg := [.c c0, .c c1]
def qT9 (r : qF9 (Option β)) := mkT (u2 qw9) qd9 (u2 r) u al
theorem qP9 (r : qF9 (Option β)) (c0 c1 : D) : PT (qT9 u al r).sp u (qt9 c0 c1) (qp9 qw9 c0 c1) (qp9 r c0 c1) := ⟨rfl, rfl⟩
theorem qa9 (r : qF9 (Option β)) : (qT9 u al r).sp.alias = al := rfl
attribute [go_sem] qw9 qp9 qt9 qP9 qa9
abbrev qF14 (β : Type) := L_IIII → L_IIIII → L_III → L_II → Int → Int → Int → Int → Int → β
def qw14 (a0 : L_IIII) (a1 : L_IIIII) (a2 : L_III) (a3 : L_II) (a4 a5 a6 a7 a8 : Int) : List Arg := [.agg [encF 4 d_IIII a0, encF 5 d_IIIII a1, encF 3 d_III a2, encF 2 d_II a3, .int .i64 a4, .int .i64 a5, .int .i64 a6, .int .i64 a7], .c (.int .i64 a8)]
def qd14 (a : List Arg) := (decF g_IIII (aCell a 0 0), decF g_IIIII (aCell a 0 1), decF g_III (aCell a 0 2), decF g_II (aCell a 0 3), dInt (aCell a 0 4), dInt (aCell a 0 5), dInt (aCell a 0 6), dInt (aCell a 0 7), dInt (aCell a 1 0))
def qp14 {β : Type} (f : qF14 β) (c0 c1 c2 c3 c4 c5 c6 c7 c8 : D) := f (decF g_IIII c0) (decF g_IIIII c1) (decF g_III c2) (decF g_II c3) (dInt c4) (dInt c5) (dInt c6) (dInt c7) (dInt c8)
abbrev qt14 (c0 c1 c2 c3 c4 c5 c6 c7 c8 : D) : List Arg := [.agg [c0, c1, c2, c3, c4, c5, c6, c7], .c c8]
def qT14 (r : qF14 (Option β)) := mkT (u9 qw14) qd14 (u9 r) u al
theorem qP14 (r : qF14 (Option β)) (c0 c1 c2 c3 c4 c5 c6 c7 c8 : D) : PT (qT14 u al r).sp u (qt14 c0 c1 c2 c3 c4 c5 c6 c7 c8) (qp14 qw14 c0 c1 c2 c3 c4 c5 c6 c7 c8) (qp14 r c0 c1 c2 c3 c4 c5 c6 c7 c8) := ⟨rfl, rfl⟩
theorem qa14 (r : qF14 (Option β)) : (qT14 u al r).sp.alias = al := rfl
attribute [go_sem] qw14 qp14 qt14 qP14 qa14
abbrev qF27 (β : Type) := L_IIII → L_IIIII → L_III → L_II → Int → Int → Int → Int → Int → Int → Int → Int → Int → Int → Int → Int → Int → Int → Int → Int → Int → Int → β
def qw27 (a0 : L_IIII) (a1 : L_IIIII) (a2 : L_III) (a3 : L_II) (a4 a5 a6 a7 a8 a9 a10 a11 a12 a13 a14 a15 a16 a17 a18 a19 a20 a21 : Int) : List Arg := [.agg [encF 4 d_IIII a0, encF 5 d_IIIII a1, encF 3 d_III a2, encF 2 d_II a3, .int .i64 a4, .int .i64 a5, .int .i64 a6, .int .i64 a7], .agg [.int .i64 a8, .int .i64 a9, .int .i64 a10, .int .i64 a11, .int .i64 a12, .int .i64 a13, .int .i64 a14, .int .i64 a15, .int .i64 a16, .int .i64 a17, .int .i64 a18, .int .i64 a19, .int .i64 a20, .int .i64 a21]]
def qd27 (a : List Arg) := (decF g_IIII (aCell a 0 0), decF g_IIIII (aCell a 0 1), decF g_III (aCell a 0 2), decF g_II (aCell a 0 3), dInt (aCell a 0 4), dInt (aCell a 0 5), dInt (aCell a 0 6), dInt (aCell a 0 7), dInt (aCell a 1 0), dInt (aCell a 1 1), dInt (aCell a 1 2), dInt (aCell a 1 3), dInt (aCell a 1 4), dInt (aCell a 1 5), dInt (aCell a 1 6), dInt (aCell a 1 7), dInt (aCell a 1 8), dInt (aCell a 1 9), dInt (aCell a 1 10), dInt (aCell a 1 11), dInt (aCell a 1 12), dInt (aCell a 1 13))
def qp27 {β : Type} (f : qF27 β) (c0 c1 c2 c3 c4 c5 c6 c7 c8 c9 c10 c11 c12 c13 c14 c15 c16 c17 c18 c19 c20 c21 : D) := f (decF g_IIII c0) (decF g_IIIII c1) (decF g_III c2) (decF g_II c3) (dInt c4) (dInt c5) (dInt c6) (dInt c7) (dInt c8) (dInt c9) (dInt c10) (dInt c11) (dInt c12) (dInt c13) (dInt c14) (dInt c15) (dInt c16) (dInt c17) (dInt c18) (dInt c19) (dInt c20) (dInt c21)
abbrev qt27 (c0 c1 c2 c3 c4 c5 c6 c7 c8 c9 c10 c11 c12 c13 c14 c15 c16 c17 c18 c19 c20 c21 : D) : List Arg := [.agg [c0, c1, c2, c3, c4, c5, c6, c7], .agg [c8, c9, c10, c11, c12, c13, c14, c15, c16, c17, c18, c19, c20, c21]]
def qT27 (r : qF27 (Option β)) := mkT (u22 qw27) qd27 (u22 r) u al
theorem qP27 (r : qF27 (Option β)) (c0 c1 c2 c3 c4 c5 c6 c7 c8 c9 c10 c11 c12 c13 c14 c15 c16 c17 c18 c19 c20 c21 : D) : PT (qT27 u al r).sp u (qt27 c0 c1 c2 c3 c4 c5 c6 c7 c8 c9 c10 c11 c12 c13 c14 c15 c16 c17 c18 c19 c20 c21) (qp27 qw27 c0 c1 c2 c3 c4 c5 c6 c7 c8 c9 c10 c11 c12 c13 c14 c15 c16 c17 c18 c19 c20 c21) (qp27 r c0 c1 c2 c3 c4 c5 c6 c7 c8 c9 c10 c11 c12 c13 c14 c15 c16 c17 c18 c19 c20 c21) := ⟨rfl, rfl⟩
theorem qa27 (r : qF27 (Option β)) : (qT27 u al r).sp.alias = al := rfl
attribute [go_sem] qw27 qp27 qt27 qP27 qa27
abbrev qF29 (β : Type) := Int → L_SIII → β
def qw29 (a0 : Int) (a1 : L_SIII) : List Arg := [.agg [.int .i64 a0, encF 4 d_SIII a1]]
def qd29 (a : List Arg) := (dInt (aCell a 0 0), decF g_SIII (aCell a 0 1))
def qp29 {β : Type} (f : qF29 β) (c0 c1 : D) := f (dInt c0) (decF g_SIII c1)
abbrev qt29 (c0 c1 : D) : List Arg := [.agg [c0, c1]]
def qT29 (r : qF29 (Option β)) := mkT (u2 qw29) qd29 (u2 r) u al
theorem qP29 (r : qF29 (Option β)) (c0 c1 : D) : PT (qT29 u al r).sp u (qt29 c0 c1) (qp29 qw29 c0 c1) (qp29 r c0 c1) := ⟨rfl, rfl⟩
theorem qa29 (r : qF29 (Option β)) : (qT29 u al r).sp.alias = al := rfl
attribute [go_sem] qw29 qp29 qt29 qP29 qa29
def qu1 (v : Int × Int × Int × Int × Int × Int × Int) : List RV := [.agg [.d (.int .i64 v.1), .d (.int .i64 v.2.1), .d (.int .i64 v.2.2.1), .d (.int .i64 v.2.2.2.1), .d (.int .i64 v.2.2.2.2.1), .d (.int .i64 v.2.2.2.2.2.1), .d (.int .i64 v.2.2.2.2.2.2)]]
attribute [go_sem] qu1
def qu3 (v : Bool) : List RV := [.c (.d (.bool v))]
attribute [go_sem] qu3
def qu4 (v : Int) : List RV := [.c (.d (.int .i64 v))]
attribute [go_sem] qu4
def qu5 (v : Int × Int) : List RV := [.c (.d (.int .i64 v.1)), .c (.d (.int .i64 v.2))]
attribute [go_sem] qu5
def qu13 (v : Int × Int) : List RV := [.agg [.d (.int .i64 v.1), .d (.int .i64 v.2)]]
attribute [go_sem] qu13
def qu14 (v : Int × Int × Int) : List RV := [.agg [.d (.int .i64 v.1), .d (.int .i64 v.2.1)], .c (.d (.int .i64 v.2.2))]
attribute [go_sem] qu14
end
end Go.Proofs.YthcpkkpjegldoaaDoor

/- Lists in cells, written by wip/dec. -/
import Derived.Test.YtdlogfepbkojkaaGreatDoorTy
import Derived.Test.YtdlogfepbkojkaaGreatDoorAbsTac
import Derived.Test.YtdlogfepbkojkaaGreatDoorLib
import Derived.WalkKit
set_option linter.unusedVariables false
set_option linter.unusedSimpArgs false
set_option maxHeartbeats 4000000
set_option maxRecDepth 20000
namespace Go.Proofs.YtdlogfepbkojkaaGreatDoor
open Go.Abs
attribute [go_sem] eqvO_can eqv_can can_cat can_cat0 can_ofList canW_ofList eqvLL can_setF can_set can_sub can_rep oneOne
theorem lapp_nil {α : Type} (r : List α) : List.append [] r = r := rfl
theorem lapp_cons {α : Type} (a : α) (l r : List α) : List.append (a :: l) r = a :: List.append l r := rfl
attribute [go_sem] lapp_nil lapp_cons
def d_IIII (x : Int × Int × Int × Int) : List D := [.int .i64 x.1, .int .i64 x.2.1, .int .i64 x.2.2.1, .int .i64 x.2.2.2]
theorem dq_IIII (x : Int × Int × Int × Int) : d_IIII x = [.int .i64 x.1, .int .i64 x.2.1, .int .i64 x.2.2.1, .int .i64 x.2.2.2] := by rw [d_IIII]
def g_IIII : List D → Int × Int × Int × Int
  | [.int _ a, .int _ b, .int _ c, .int _ d] => (a, b, c, d)
  | _ => default
theorem gd_IIII (x : Int × Int × Int × Int) : g_IIII (d_IIII x) = x := by rfl
theorem dec_IIII (l : List (Int × Int × Int × Int)) : decF g_IIII (encF 4 d_IIII l) = l := decF_encF _ _ _ _ gd_IIII
theorem fl_IIII (l : List (Int × Int × Int × Int)) : (encF 4 d_IIII l).flat = True := flat_enc (fun _ => rfl)
attribute [go_sem] dq_IIII g_IIII dec_IIII fl_IIII
theorem dp_IIII (o : Option (Int × Int × Int × Int)) : decP g_IIII (.pt o.isSome [.int .i64 (o.getD default).1, .int .i64 (o.getD default).2.1, .int .i64 (o.getD default).2.2.1, .int .i64 (o.getD default).2.2.2]) = o := by have := decP_encP gd_IIII o; rwa [dq_IIII] at this
attribute [go_sem] dp_IIII
def d_LIIIIE (x : (List (Int × Int × Int × Int))) : List D := [encF 4 d_IIII x]
theorem dq_LIIIIE (x : (List (Int × Int × Int × Int))) : d_LIIIIE x = [encF 4 d_IIII x] := by rw [d_LIIIIE]
def g_LIIIIE : List D → (List (Int × Int × Int × Int))
  | [a] => decF g_IIII a
  | _ => default
theorem gd_LIIIIE (x : (List (Int × Int × Int × Int))) : g_LIIIIE (d_LIIIIE x) = x := by simp only [g_LIIIIE, d_LIIIIE, dec_IIII]
theorem dec_LIIIIE (l : List ((List (Int × Int × Int × Int)))) : decF g_LIIIIE (encF 1 d_LIIIIE l) = l := decF_encF _ _ _ _ gd_LIIIIE
attribute [go_sem] dq_LIIIIE g_LIIIIE dec_LIIIIE
def d_IIIII (x : Int × Int × Int × Int × Int) : List D := [.int .i64 x.1, .int .i64 x.2.1, .int .i64 x.2.2.1, .int .i64 x.2.2.2.1, .int .i64 x.2.2.2.2]
theorem dq_IIIII (x : Int × Int × Int × Int × Int) : d_IIIII x = [.int .i64 x.1, .int .i64 x.2.1, .int .i64 x.2.2.1, .int .i64 x.2.2.2.1, .int .i64 x.2.2.2.2] := by rw [d_IIIII]
def g_IIIII : List D → Int × Int × Int × Int × Int
  | [.int _ a, .int _ b, .int _ c, .int _ d, .int _ e] => (a, b, c, d, e)
  | _ => default
theorem gd_IIIII (x : Int × Int × Int × Int × Int) : g_IIIII (d_IIIII x) = x := by rfl
theorem dec_IIIII (l : List (Int × Int × Int × Int × Int)) : decF g_IIIII (encF 5 d_IIIII l) = l := decF_encF _ _ _ _ gd_IIIII
theorem fl_IIIII (l : List (Int × Int × Int × Int × Int)) : (encF 5 d_IIIII l).flat = True := flat_enc (fun _ => rfl)
attribute [go_sem] dq_IIIII g_IIIII dec_IIIII fl_IIIII
theorem dp_IIIII (o : Option (Int × Int × Int × Int × Int)) : decP g_IIIII (.pt o.isSome [.int .i64 (o.getD default).1, .int .i64 (o.getD default).2.1, .int .i64 (o.getD default).2.2.1, .int .i64 (o.getD default).2.2.2.1, .int .i64 (o.getD default).2.2.2.2]) = o := by have := decP_encP gd_IIIII o; rwa [dq_IIIII] at this
attribute [go_sem] dp_IIIII
def d_LIIIIIE (x : (List (Int × Int × Int × Int × Int))) : List D := [encF 5 d_IIIII x]
theorem dq_LIIIIIE (x : (List (Int × Int × Int × Int × Int))) : d_LIIIIIE x = [encF 5 d_IIIII x] := by rw [d_LIIIIIE]
def g_LIIIIIE : List D → (List (Int × Int × Int × Int × Int))
  | [a] => decF g_IIIII a
  | _ => default
theorem gd_LIIIIIE (x : (List (Int × Int × Int × Int × Int))) : g_LIIIIIE (d_LIIIIIE x) = x := by simp only [g_LIIIIIE, d_LIIIIIE, dec_IIIII]
theorem dec_LIIIIIE (l : List ((List (Int × Int × Int × Int × Int)))) : decF g_LIIIIIE (encF 1 d_LIIIIIE l) = l := decF_encF _ _ _ _ gd_LIIIIIE
attribute [go_sem] dq_LIIIIIE g_LIIIIIE dec_LIIIIIE
def d_III (x : Int × Int × Int) : List D := [.int .i64 x.1, .int .i64 x.2.1, .int .i64 x.2.2]
theorem dq_III (x : Int × Int × Int) : d_III x = [.int .i64 x.1, .int .i64 x.2.1, .int .i64 x.2.2] := by rw [d_III]
def g_III : List D → Int × Int × Int
  | [.int _ a, .int _ b, .int _ c] => (a, b, c)
  | _ => default
theorem gd_III (x : Int × Int × Int) : g_III (d_III x) = x := by rfl
theorem dec_III (l : List (Int × Int × Int)) : decF g_III (encF 3 d_III l) = l := decF_encF _ _ _ _ gd_III
theorem fl_III (l : List (Int × Int × Int)) : (encF 3 d_III l).flat = True := flat_enc (fun _ => rfl)
attribute [go_sem] dq_III g_III dec_III fl_III
theorem dp_III (o : Option (Int × Int × Int)) : decP g_III (.pt o.isSome [.int .i64 (o.getD default).1, .int .i64 (o.getD default).2.1, .int .i64 (o.getD default).2.2]) = o := by have := decP_encP gd_III o; rwa [dq_III] at this
attribute [go_sem] dp_III
def d_LIIIE (x : (List (Int × Int × Int))) : List D := [encF 3 d_III x]
theorem dq_LIIIE (x : (List (Int × Int × Int))) : d_LIIIE x = [encF 3 d_III x] := by rw [d_LIIIE]
def g_LIIIE : List D → (List (Int × Int × Int))
  | [a] => decF g_III a
  | _ => default
theorem gd_LIIIE (x : (List (Int × Int × Int))) : g_LIIIE (d_LIIIE x) = x := by simp only [g_LIIIE, d_LIIIE, dec_III]
theorem dec_LIIIE (l : List ((List (Int × Int × Int)))) : decF g_LIIIE (encF 1 d_LIIIE l) = l := decF_encF _ _ _ _ gd_LIIIE
attribute [go_sem] dq_LIIIE g_LIIIE dec_LIIIE
def d_II (x : Int × Int) : List D := [.int .i64 x.1, .int .i64 x.2]
theorem dq_II (x : Int × Int) : d_II x = [.int .i64 x.1, .int .i64 x.2] := by rw [d_II]
def g_II : List D → Int × Int
  | [.int _ a, .int _ b] => (a, b)
  | _ => default
theorem gd_II (x : Int × Int) : g_II (d_II x) = x := by rfl
theorem dec_II (l : List (Int × Int)) : decF g_II (encF 2 d_II l) = l := decF_encF _ _ _ _ gd_II
theorem fl_II (l : List (Int × Int)) : (encF 2 d_II l).flat = True := flat_enc (fun _ => rfl)
attribute [go_sem] dq_II g_II dec_II fl_II
theorem dp_II (o : Option (Int × Int)) : decP g_II (.pt o.isSome [.int .i64 (o.getD default).1, .int .i64 (o.getD default).2]) = o := by have := decP_encP gd_II o; rwa [dq_II] at this
attribute [go_sem] dp_II
def d_LIIE (x : (List (Int × Int))) : List D := [encF 2 d_II x]
theorem dq_LIIE (x : (List (Int × Int))) : d_LIIE x = [encF 2 d_II x] := by rw [d_LIIE]
def g_LIIE : List D → (List (Int × Int))
  | [a] => decF g_II a
  | _ => default
theorem gd_LIIE (x : (List (Int × Int))) : g_LIIE (d_LIIE x) = x := by simp only [g_LIIE, d_LIIE, dec_II]
theorem dec_LIIE (l : List ((List (Int × Int)))) : decF g_LIIE (encF 1 d_LIIE l) = l := decF_encF _ _ _ _ gd_LIIE
attribute [go_sem] dq_LIIE g_LIIE dec_LIIE
def d_I (x : Int) : List D := [.int .i64 x]
theorem dq_I (x : Int) : d_I x = [.int .i64 x] := by rw [d_I]
def g_I : List D → Int
  | [.int _ a] => a
  | _ => default
theorem gd_I (x : Int) : g_I (d_I x) = x := by rfl
theorem dec_I (l : List (Int)) : decF g_I (encF 1 d_I l) = l := decF_encF _ _ _ _ gd_I
theorem fl_I (l : List (Int)) : (encF 1 d_I l).flat = True := flat_enc (fun _ => rfl)
attribute [go_sem] dq_I g_I dec_I fl_I
def d_ILIIEI (x : Int × (List (Int × Int)) × Int) : List D := [.int .i64 x.1, encF 2 d_II x.2.1, .int .i64 x.2.2]
theorem dq_ILIIEI (x : Int × (List (Int × Int)) × Int) : d_ILIIEI x = [.int .i64 x.1, encF 2 d_II x.2.1, .int .i64 x.2.2] := by rw [d_ILIIEI]
def g_ILIIEI : List D → Int × (List (Int × Int)) × Int
  | [.int _ a, b, .int _ c] => (a, decF g_II b, c)
  | _ => default
theorem gd_ILIIEI (x : Int × (List (Int × Int)) × Int) : g_ILIIEI (d_ILIIEI x) = x := by simp only [g_ILIIEI, d_ILIIEI, dec_II]
theorem dec_ILIIEI (l : List (Int × (List (Int × Int)) × Int)) : decF g_ILIIEI (encF 3 d_ILIIEI l) = l := decF_encF _ _ _ _ gd_ILIIEI
attribute [go_sem] dq_ILIIEI g_ILIIEI dec_ILIIEI
theorem dp_ILIIEI (o : Option (Int × (List (Int × Int)) × Int)) : decP g_ILIIEI (.pt o.isSome [.int .i64 (o.getD default).1, encF 2 d_II (o.getD default).2.1, .int .i64 (o.getD default).2.2]) = o := by have := decP_encP gd_ILIIEI o; rwa [dq_ILIIEI] at this
attribute [go_sem] dp_ILIIEI
def d_LILIIEIE (x : (List (Int × (List (Int × Int)) × Int))) : List D := [encF 3 d_ILIIEI x]
theorem dq_LILIIEIE (x : (List (Int × (List (Int × Int)) × Int))) : d_LILIIEIE x = [encF 3 d_ILIIEI x] := by rw [d_LILIIEIE]
def g_LILIIEIE : List D → (List (Int × (List (Int × Int)) × Int))
  | [a] => decF g_ILIIEI a
  | _ => default
theorem gd_LILIIEIE (x : (List (Int × (List (Int × Int)) × Int))) : g_LILIIEIE (d_LILIIEIE x) = x := by simp only [g_LILIIEIE, d_LILIIEIE, dec_ILIIEI]
theorem dec_LILIIEIE (l : List ((List (Int × (List (Int × Int)) × Int)))) : decF g_LILIIEIE (encF 1 d_LILIIEIE l) = l := decF_encF _ _ _ _ gd_LILIIEIE
attribute [go_sem] dq_LILIIEIE g_LILIIEIE dec_LILIIEIE
def d_B (x : Bool) : List D := [.bool x]
theorem dq_B (x : Bool) : d_B x = [.bool x] := by rw [d_B]
def g_B : List D → Bool
  | [.bool a] => a
  | _ => default
theorem gd_B (x : Bool) : g_B (d_B x) = x := by rfl
theorem dec_B (l : List (Bool)) : decF g_B (encF 1 d_B l) = l := decF_encF _ _ _ _ gd_B
theorem fl_B (l : List (Bool)) : (encF 1 d_B l).flat = True := flat_enc (fun _ => rfl)
attribute [go_sem] dq_B g_B dec_B fl_B
def d_LIE (x : (List (Int))) : List D := [encF 1 d_I x]
theorem dq_LIE (x : (List (Int))) : d_LIE x = [encF 1 d_I x] := by rw [d_LIE]
def g_LIE : List D → (List (Int))
  | [a] => decF g_I a
  | _ => default
theorem gd_LIE (x : (List (Int))) : g_LIE (d_LIE x) = x := by simp only [g_LIE, d_LIE, dec_I]
theorem dec_LIE (l : List ((List (Int)))) : decF g_LIE (encF 1 d_LIE l) = l := decF_encF _ _ _ _ gd_LIE
attribute [go_sem] dq_LIE g_LIE dec_LIE
def d_S (x : ByteArray) : List D := [.str x]
theorem dq_S (x : ByteArray) : d_S x = [.str x] := by rw [d_S]
def g_S : List D → ByteArray
  | [.str a] => a
  | _ => default
theorem gd_S (x : ByteArray) : g_S (d_S x) = x := by rfl
theorem dec_S (l : List (ByteArray)) : decF g_S (encF 1 d_S l) = l := decF_encF _ _ _ _ gd_S
theorem fl_S (l : List (ByteArray)) : (encF 1 d_S l).flat = True := flat_enc (fun _ => rfl)
attribute [go_sem] dq_S g_S dec_S fl_S
def d_LSE (x : (List (ByteArray))) : List D := [encF 1 d_S x]
theorem dq_LSE (x : (List (ByteArray))) : d_LSE x = [encF 1 d_S x] := by rw [d_LSE]
def g_LSE : List D → (List (ByteArray))
  | [a] => decF g_S a
  | _ => default
theorem gd_LSE (x : (List (ByteArray))) : g_LSE (d_LSE x) = x := by simp only [g_LSE, d_LSE, dec_S]
theorem dec_LSE (l : List ((List (ByteArray)))) : decF g_LSE (encF 1 d_LSE l) = l := decF_encF _ _ _ _ gd_LSE
attribute [go_sem] dq_LSE g_LSE dec_LSE
def d_E (x : Bool) : List D := [.err x]
theorem dq_E (x : Bool) : d_E x = [.err x] := by rw [d_E]
def g_E : List D → Bool
  | [.err a] => a
  | _ => default
theorem gd_E (x : Bool) : g_E (d_E x) = x := by rfl
theorem dec_E (l : List (Bool)) : decF g_E (encF 1 d_E l) = l := decF_encF _ _ _ _ gd_E
theorem fl_E (l : List (Bool)) : (encF 1 d_E l).flat = True := flat_enc (fun _ => rfl)
attribute [go_sem] dq_E g_E dec_E fl_E
def d_LLIEE (x : (List ((List (Int))))) : List D := [encF 1 d_LIE x]
theorem dq_LLIEE (x : (List ((List (Int))))) : d_LLIEE x = [encF 1 d_LIE x] := by rw [d_LLIEE]
def g_LLIEE : List D → (List ((List (Int))))
  | [a] => decF g_LIE a
  | _ => default
theorem gd_LLIEE (x : (List ((List (Int))))) : g_LLIEE (d_LLIEE x) = x := by simp only [g_LLIEE, d_LLIEE, dec_LIE]
theorem dec_LLIEE (l : List ((List ((List (Int)))))) : decF g_LLIEE (encF 1 d_LLIEE l) = l := decF_encF _ _ _ _ gd_LLIEE
attribute [go_sem] dq_LLIEE g_LLIEE dec_LLIEE
def d_Ku8 (x : Int) : List D := [.int .u8 x]
theorem dq_Ku8 (x : Int) : d_Ku8 x = [.int .u8 x] := by rw [d_Ku8]
def g_Ku8 : List D → Int
  | [.int _ a] => a
  | _ => default
theorem gd_Ku8 (x : Int) : g_Ku8 (d_Ku8 x) = x := by rfl
theorem dec_Ku8 (l : List (Int)) : decF g_Ku8 (encF 1 d_Ku8 l) = l := decF_encF _ _ _ _ gd_Ku8
theorem fl_Ku8 (l : List (Int)) : (encF 1 d_Ku8 l).flat = True := flat_enc (fun _ => rfl)
attribute [go_sem] dq_Ku8 g_Ku8 dec_Ku8 fl_Ku8
attribute [go_sem] encP Option.isSome_none
abbrev qA0 := Unit
def qw0 : List Arg := []
def qE0 : qA0 → List Arg := fun _ => qw0
def qd0 (a : List Arg) : qA0 := ()
def qp0 {β : Type} (f : β) : β := f 
def qt0 : List Arg := []
attribute [go_sem] qw0 qp0 qt0 qE0
abbrev qA1 := (List (Int × Int × Int × Int)) × (List (Int × Int × Int × Int × Int)) × (List (Int × Int × Int)) × (List (Int × Int)) × Int × Int × Int × Int
def qw1 (a0 : List (Int × Int × Int × Int)) (a1 : List (Int × Int × Int × Int × Int)) (a2 : List (Int × Int × Int)) (a3 : List (Int × Int)) (a4 : Int) (a5 : Int) (a6 : Int) (a7 : Int) : List Arg := [.agg [encF 4 d_IIII a0, encF 5 d_IIIII a1, encF 3 d_III a2, encF 2 d_II a3, .int .i64 a4, .int .i64 a5, .int .i64 a6, .int .i64 a7]]
def qE1 : qA1 → List Arg := fun ⟨a0, a1, a2, a3, a4, a5, a6, a7⟩ => qw1 a0 a1 a2 a3 a4 a5 a6 a7
def qd1 (a : List Arg) : qA1 := (decF g_IIII (aCell a 0 0), decF g_IIIII (aCell a 0 1), decF g_III (aCell a 0 2), decF g_II (aCell a 0 3), dInt (aCell a 0 4), dInt (aCell a 0 5), dInt (aCell a 0 6), dInt (aCell a 0 7))
def qp1 {β : Type} (f : (List (Int × Int × Int × Int)) → (List (Int × Int × Int × Int × Int)) → (List (Int × Int × Int)) → (List (Int × Int)) → Int → Int → Int → Int → β) (c0 c1 c2 c3 c4 c5 c6 c7 : D) : β := f (decF g_IIII c0) (decF g_IIIII c1) (decF g_III c2) (decF g_II c3) (dInt c4) (dInt c5) (dInt c6) (dInt c7)
def qt1 (c0 c1 c2 c3 c4 c5 c6 c7 : D) : List Arg := [.agg [c0, c1, c2, c3, c4, c5, c6, c7]]
attribute [go_sem] qw1 qp1 qt1 qE1
abbrev qA2 := Int × Int × Int
def qw2 (a0 : Int) (a1 : Int) (a2 : Int) : List Arg := [.c (.int .i64 a0), .c (.int .i64 a1), .c (.int .i64 a2)]
def qE2 : qA2 → List Arg := fun ⟨a0, a1, a2⟩ => qw2 a0 a1 a2
def qd2 (a : List Arg) : qA2 := (dInt (aCell a 0 0), dInt (aCell a 1 0), dInt (aCell a 2 0))
def qp2 {β : Type} (f : Int → Int → Int → β) (c0 c1 c2 : D) : β := f (dInt c0) (dInt c1) (dInt c2)
def qt2 (c0 c1 c2 : D) : List Arg := [.c c0, .c c1, .c c2]
attribute [go_sem] qw2 qp2 qt2 qE2
abbrev qA3 := Int
def qw3 (a0 : Int) : List Arg := [.c (.int .i64 a0)]
def qE3 : qA3 → List Arg := qw3
def qd3 (a : List Arg) : qA3 := dInt (aCell a 0 0)
def qp3 {β : Type} (f : Int → β) (c0 : D) : β := f (dInt c0)
def qt3 (c0 : D) : List Arg := [.c c0]
attribute [go_sem] qw3 qp3 qt3 qE3
abbrev qA4 := Int × Int
def qw4 (a0 : Int) (a1 : Int) : List Arg := [.agg [.int .i64 a0, .int .i64 a1]]
def qE4 : qA4 → List Arg := fun ⟨a0, a1⟩ => qw4 a0 a1
def qd4 (a : List Arg) : qA4 := (dInt (aCell a 0 0), dInt (aCell a 0 1))
def qp4 {β : Type} (f : Int → Int → β) (c0 c1 : D) : β := f (dInt c0) (dInt c1)
def qt4 (c0 c1 : D) : List Arg := [.agg [c0, c1]]
attribute [go_sem] qw4 qp4 qt4 qE4
abbrev qA6 := (List (Int))
def qw6 (a0 : List (Int)) : List Arg := [.c (encF 1 d_I a0)]
def qE6 : qA6 → List Arg := qw6
def qd6 (a : List Arg) : qA6 := decF g_I (aCell a 0 0)
def qp6 {β : Type} (f : (List (Int)) → β) (c0 : D) : β := f (decF g_I c0)
def qt6 (c0 : D) : List Arg := [.c c0]
attribute [go_sem] qw6 qp6 qt6 qE6
abbrev qA10 := Int × Int × Int × Int × Int × Int × Int
def qw10 (a0 : Int) (a1 : Int) (a2 : Int) (a3 : Int) (a4 : Int) (a5 : Int) (a6 : Int) : List Arg := [.agg [.int .i64 a0, .int .i64 a1, .int .i64 a2, .int .i64 a3, .int .i64 a4, .int .i64 a5, .int .i64 a6]]
def qE10 : qA10 → List Arg := fun ⟨a0, a1, a2, a3, a4, a5, a6⟩ => qw10 a0 a1 a2 a3 a4 a5 a6
def qd10 (a : List Arg) : qA10 := (dInt (aCell a 0 0), dInt (aCell a 0 1), dInt (aCell a 0 2), dInt (aCell a 0 3), dInt (aCell a 0 4), dInt (aCell a 0 5), dInt (aCell a 0 6))
def qp10 {β : Type} (f : Int → Int → Int → Int → Int → Int → Int → β) (c0 c1 c2 c3 c4 c5 c6 : D) : β := f (dInt c0) (dInt c1) (dInt c2) (dInt c3) (dInt c4) (dInt c5) (dInt c6)
def qt10 (c0 c1 c2 c3 c4 c5 c6 : D) : List Arg := [.agg [c0, c1, c2, c3, c4, c5, c6]]
attribute [go_sem] qw10 qp10 qt10 qE10
abbrev qA14 := (List (Int × Int × Int × Int)) × (List (Int × Int × Int × Int × Int)) × (List (Int × Int × Int)) × (List (Int × Int)) × Int × Int × Int × Int × Int
def qw14 (a0 : List (Int × Int × Int × Int)) (a1 : List (Int × Int × Int × Int × Int)) (a2 : List (Int × Int × Int)) (a3 : List (Int × Int)) (a4 : Int) (a5 : Int) (a6 : Int) (a7 : Int) (a8 : Int) : List Arg := [.agg [encF 4 d_IIII a0, encF 5 d_IIIII a1, encF 3 d_III a2, encF 2 d_II a3, .int .i64 a4, .int .i64 a5, .int .i64 a6, .int .i64 a7], .c (.int .i64 a8)]
def qE14 : qA14 → List Arg := fun ⟨a0, a1, a2, a3, a4, a5, a6, a7, a8⟩ => qw14 a0 a1 a2 a3 a4 a5 a6 a7 a8
def qd14 (a : List Arg) : qA14 := (decF g_IIII (aCell a 0 0), decF g_IIIII (aCell a 0 1), decF g_III (aCell a 0 2), decF g_II (aCell a 0 3), dInt (aCell a 0 4), dInt (aCell a 0 5), dInt (aCell a 0 6), dInt (aCell a 0 7), dInt (aCell a 1 0))
def qp14 {β : Type} (f : (List (Int × Int × Int × Int)) → (List (Int × Int × Int × Int × Int)) → (List (Int × Int × Int)) → (List (Int × Int)) → Int → Int → Int → Int → Int → β) (c0 c1 c2 c3 c4 c5 c6 c7 c8 : D) : β := f (decF g_IIII c0) (decF g_IIIII c1) (decF g_III c2) (decF g_II c3) (dInt c4) (dInt c5) (dInt c6) (dInt c7) (dInt c8)
def qt14 (c0 c1 c2 c3 c4 c5 c6 c7 c8 : D) : List Arg := [.agg [c0, c1, c2, c3, c4, c5, c6, c7], .c c8]
attribute [go_sem] qw14 qp14 qt14 qE14
abbrev qA27 := (List (Int × Int × Int × Int)) × (List (Int × Int × Int × Int × Int)) × (List (Int × Int × Int)) × (List (Int × Int)) × Int × Int × Int × Int × Int × Int × Int × Int × Int × Int × Int × Int × Int × Int × Int × Int × Int × Int
def qw27 (a0 : List (Int × Int × Int × Int)) (a1 : List (Int × Int × Int × Int × Int)) (a2 : List (Int × Int × Int)) (a3 : List (Int × Int)) (a4 : Int) (a5 : Int) (a6 : Int) (a7 : Int) (a8 : Int) (a9 : Int) (a10 : Int) (a11 : Int) (a12 : Int) (a13 : Int) (a14 : Int) (a15 : Int) (a16 : Int) (a17 : Int) (a18 : Int) (a19 : Int) (a20 : Int) (a21 : Int) : List Arg := [.agg [encF 4 d_IIII a0, encF 5 d_IIIII a1, encF 3 d_III a2, encF 2 d_II a3, .int .i64 a4, .int .i64 a5, .int .i64 a6, .int .i64 a7], .agg [.int .i64 a8, .int .i64 a9, .int .i64 a10, .int .i64 a11, .int .i64 a12, .int .i64 a13, .int .i64 a14, .int .i64 a15, .int .i64 a16, .int .i64 a17, .int .i64 a18, .int .i64 a19, .int .i64 a20, .int .i64 a21]]
def qE27 : qA27 → List Arg := fun ⟨a0, a1, a2, a3, a4, a5, a6, a7, a8, a9, a10, a11, a12, a13, a14, a15, a16, a17, a18, a19, a20, a21⟩ => qw27 a0 a1 a2 a3 a4 a5 a6 a7 a8 a9 a10 a11 a12 a13 a14 a15 a16 a17 a18 a19 a20 a21
def qd27 (a : List Arg) : qA27 := (decF g_IIII (aCell a 0 0), decF g_IIIII (aCell a 0 1), decF g_III (aCell a 0 2), decF g_II (aCell a 0 3), dInt (aCell a 0 4), dInt (aCell a 0 5), dInt (aCell a 0 6), dInt (aCell a 0 7), dInt (aCell a 1 0), dInt (aCell a 1 1), dInt (aCell a 1 2), dInt (aCell a 1 3), dInt (aCell a 1 4), dInt (aCell a 1 5), dInt (aCell a 1 6), dInt (aCell a 1 7), dInt (aCell a 1 8), dInt (aCell a 1 9), dInt (aCell a 1 10), dInt (aCell a 1 11), dInt (aCell a 1 12), dInt (aCell a 1 13))
def qp27 {β : Type} (f : (List (Int × Int × Int × Int)) → (List (Int × Int × Int × Int × Int)) → (List (Int × Int × Int)) → (List (Int × Int)) → Int → Int → Int → Int → Int → Int → Int → Int → Int → Int → Int → Int → Int → Int → Int → Int → Int → Int → β) (c0 c1 c2 c3 c4 c5 c6 c7 c8 c9 c10 c11 c12 c13 c14 c15 c16 c17 c18 c19 c20 c21 : D) : β := f (decF g_IIII c0) (decF g_IIIII c1) (decF g_III c2) (decF g_II c3) (dInt c4) (dInt c5) (dInt c6) (dInt c7) (dInt c8) (dInt c9) (dInt c10) (dInt c11) (dInt c12) (dInt c13) (dInt c14) (dInt c15) (dInt c16) (dInt c17) (dInt c18) (dInt c19) (dInt c20) (dInt c21)
def qt27 (c0 c1 c2 c3 c4 c5 c6 c7 c8 c9 c10 c11 c12 c13 c14 c15 c16 c17 c18 c19 c20 c21 : D) : List Arg := [.agg [c0, c1, c2, c3, c4, c5, c6, c7], .agg [c8, c9, c10, c11, c12, c13, c14, c15, c16, c17, c18, c19, c20, c21]]
attribute [go_sem] qw27 qp27 qt27 qE27
abbrev qA31 := ByteArray
def qw31 (a0 : ByteArray) : List Arg := [.c (.str a0)]
def qE31 : qA31 → List Arg := qw31
def qd31 (a : List Arg) : qA31 := dStr (aCell a 0 0)
def qp31 {β : Type} (f : ByteArray → β) (c0 : D) : β := f (dStr c0)
def qt31 (c0 : D) : List Arg := [.c c0]
attribute [go_sem] qw31 qp31 qt31 qE31
def qu0 (v : (List (Int × Int × Int × Int)) × (List (Int × Int × Int × Int × Int)) × (List (Int × Int × Int)) × (List (Int × Int)) × Int × Int × Int × Int) : List RV := [.agg [.own (encF 4 d_IIII v.1), .own (encF 5 d_IIIII v.2.1), .own (encF 3 d_III v.2.2.1), .own (encF 2 d_II v.2.2.2.1), .d (.int .i64 v.2.2.2.2.1), .d (.int .i64 v.2.2.2.2.2.1), .d (.int .i64 v.2.2.2.2.2.2.1), .d (.int .i64 v.2.2.2.2.2.2.2)]]
attribute [go_sem] qu0
def qu1 (v : Int × Int × Int × Int × Int × Int × Int) : List RV := [.agg [.d (.int .i64 v.1), .d (.int .i64 v.2.1), .d (.int .i64 v.2.2.1), .d (.int .i64 v.2.2.2.1), .d (.int .i64 v.2.2.2.2.1), .d (.int .i64 v.2.2.2.2.2.1), .d (.int .i64 v.2.2.2.2.2.2)]]
attribute [go_sem] qu1
def qu3 (v : Bool) : List RV := [.c (.d (.bool v))]
attribute [go_sem] qu3
def qu4 (v : Int) : List RV := [.c (.d (.int .i64 v))]
attribute [go_sem] qu4
def qu5 (v : Int × Int) : List RV := [.c (.d (.int .i64 v.1)), .c (.d (.int .i64 v.2))]
attribute [go_sem] qu5
def qu10 (v : Int × Int × Int × Int × Int × Int × Int × Int) : List RV := [.agg [.d (.int .i64 v.1), .d (.int .i64 v.2.1), .d (.int .i64 v.2.2.1), .d (.int .i64 v.2.2.2.1), .d (.int .i64 v.2.2.2.2.1), .d (.int .i64 v.2.2.2.2.2.1), .d (.int .i64 v.2.2.2.2.2.2.1)], .c (.d (.int .i64 v.2.2.2.2.2.2.2))]
attribute [go_sem] qu10
def qu15 (v : ByteArray) : List RV := [.c (.d (.str v))]
attribute [go_sem] qu15
def qu16 (v : (List (ByteArray))) : List RV := [.c (.own (encF 1 d_S v))]
attribute [go_sem] qu16
end Go.Proofs.YtdlogfepbkojkaaGreatDoor

/- Lists in cells, written by wip/dec. -/
import Derived.Test.YtfkmbdfajpdjjaaDoorTy
import Derived.Test.YtfkmbdfajpdjjaaDoorAbsTac
import Derived.WalkKit
set_option linter.unusedVariables false
set_option linter.unusedSimpArgs false
set_option maxHeartbeats 4000000
set_option maxRecDepth 20000
namespace Go.Proofs.YtfkmbdfajpdjjaaDoor
open Go.Abs
attribute [go_sem] eqvO_can eqv_can can_cat can_cat0 can_ofList canW_ofList eqvLL can_setF can_set can_sub can_rep oneOne
theorem lapp_nil {α : Type} (r : List α) : List.append [] r = r := rfl
theorem lapp_cons {α : Type} (a : α) (l r : List α) : List.append (a :: l) r = a :: List.append l r := rfl
attribute [go_sem] lapp_nil lapp_cons
def d_IIII (x : Int × Int × Int × Int) : List D := [.int .i64 x.1, .int .i64 x.2.1, .int .i64 x.2.2.1, .int .i64 x.2.2.2]
theorem dq_IIII (x : Int × Int × Int × Int) : d_IIII x = [.int .i64 x.1, .int .i64 x.2.1, .int .i64 x.2.2.1, .int .i64 x.2.2.2] := by rw [d_IIII]
def g_IIII : List D → Int × Int × Int × Int
  | [.int _ a, .int _ b, .int _ c, .int _ d] => (a, b, c, d)
  | _ => default
theorem gd_IIII (x : Int × Int × Int × Int) : g_IIII (d_IIII x) = x := by rfl
theorem dec_IIII (l : List (Int × Int × Int × Int)) : decF g_IIII (encF 4 d_IIII l) = l := decF_encF _ _ _ _ gd_IIII
theorem fl_IIII (l : List (Int × Int × Int × Int)) : (encF 4 d_IIII l).flat = True := flat_enc (fun _ => rfl)
attribute [go_sem] dq_IIII g_IIII dec_IIII fl_IIII
theorem dp_IIII (o : Option (Int × Int × Int × Int)) : decP g_IIII (.pt o.isSome [.int .i64 (o.getD default).1, .int .i64 (o.getD default).2.1, .int .i64 (o.getD default).2.2.1, .int .i64 (o.getD default).2.2.2]) = o := by have := decP_encP gd_IIII o; rwa [dq_IIII] at this
attribute [go_sem] dp_IIII
def d_LIIIIE (x : (List (Int × Int × Int × Int))) : List D := [encF 4 d_IIII x]
theorem dq_LIIIIE (x : (List (Int × Int × Int × Int))) : d_LIIIIE x = [encF 4 d_IIII x] := by rw [d_LIIIIE]
def g_LIIIIE : List D → (List (Int × Int × Int × Int))
  | [a] => decF g_IIII a
  | _ => default
theorem gd_LIIIIE (x : (List (Int × Int × Int × Int))) : g_LIIIIE (d_LIIIIE x) = x := by simp only [g_LIIIIE, d_LIIIIE, dec_IIII]
theorem dec_LIIIIE (l : List ((List (Int × Int × Int × Int)))) : decF g_LIIIIE (encF 1 d_LIIIIE l) = l := decF_encF _ _ _ _ gd_LIIIIE
attribute [go_sem] dq_LIIIIE g_LIIIIE dec_LIIIIE
def d_IIIII (x : Int × Int × Int × Int × Int) : List D := [.int .i64 x.1, .int .i64 x.2.1, .int .i64 x.2.2.1, .int .i64 x.2.2.2.1, .int .i64 x.2.2.2.2]
theorem dq_IIIII (x : Int × Int × Int × Int × Int) : d_IIIII x = [.int .i64 x.1, .int .i64 x.2.1, .int .i64 x.2.2.1, .int .i64 x.2.2.2.1, .int .i64 x.2.2.2.2] := by rw [d_IIIII]
def g_IIIII : List D → Int × Int × Int × Int × Int
  | [.int _ a, .int _ b, .int _ c, .int _ d, .int _ e] => (a, b, c, d, e)
  | _ => default
theorem gd_IIIII (x : Int × Int × Int × Int × Int) : g_IIIII (d_IIIII x) = x := by rfl
theorem dec_IIIII (l : List (Int × Int × Int × Int × Int)) : decF g_IIIII (encF 5 d_IIIII l) = l := decF_encF _ _ _ _ gd_IIIII
theorem fl_IIIII (l : List (Int × Int × Int × Int × Int)) : (encF 5 d_IIIII l).flat = True := flat_enc (fun _ => rfl)
attribute [go_sem] dq_IIIII g_IIIII dec_IIIII fl_IIIII
theorem dp_IIIII (o : Option (Int × Int × Int × Int × Int)) : decP g_IIIII (.pt o.isSome [.int .i64 (o.getD default).1, .int .i64 (o.getD default).2.1, .int .i64 (o.getD default).2.2.1, .int .i64 (o.getD default).2.2.2.1, .int .i64 (o.getD default).2.2.2.2]) = o := by have := decP_encP gd_IIIII o; rwa [dq_IIIII] at this
attribute [go_sem] dp_IIIII
def d_LIIIIIE (x : (List (Int × Int × Int × Int × Int))) : List D := [encF 5 d_IIIII x]
theorem dq_LIIIIIE (x : (List (Int × Int × Int × Int × Int))) : d_LIIIIIE x = [encF 5 d_IIIII x] := by rw [d_LIIIIIE]
def g_LIIIIIE : List D → (List (Int × Int × Int × Int × Int))
  | [a] => decF g_IIIII a
  | _ => default
theorem gd_LIIIIIE (x : (List (Int × Int × Int × Int × Int))) : g_LIIIIIE (d_LIIIIIE x) = x := by simp only [g_LIIIIIE, d_LIIIIIE, dec_IIIII]
theorem dec_LIIIIIE (l : List ((List (Int × Int × Int × Int × Int)))) : decF g_LIIIIIE (encF 1 d_LIIIIIE l) = l := decF_encF _ _ _ _ gd_LIIIIIE
attribute [go_sem] dq_LIIIIIE g_LIIIIIE dec_LIIIIIE
def d_III (x : Int × Int × Int) : List D := [.int .i64 x.1, .int .i64 x.2.1, .int .i64 x.2.2]
theorem dq_III (x : Int × Int × Int) : d_III x = [.int .i64 x.1, .int .i64 x.2.1, .int .i64 x.2.2] := by rw [d_III]
def g_III : List D → Int × Int × Int
  | [.int _ a, .int _ b, .int _ c] => (a, b, c)
  | _ => default
theorem gd_III (x : Int × Int × Int) : g_III (d_III x) = x := by rfl
theorem dec_III (l : List (Int × Int × Int)) : decF g_III (encF 3 d_III l) = l := decF_encF _ _ _ _ gd_III
theorem fl_III (l : List (Int × Int × Int)) : (encF 3 d_III l).flat = True := flat_enc (fun _ => rfl)
attribute [go_sem] dq_III g_III dec_III fl_III
theorem dp_III (o : Option (Int × Int × Int)) : decP g_III (.pt o.isSome [.int .i64 (o.getD default).1, .int .i64 (o.getD default).2.1, .int .i64 (o.getD default).2.2]) = o := by have := decP_encP gd_III o; rwa [dq_III] at this
attribute [go_sem] dp_III
def d_LIIIE (x : (List (Int × Int × Int))) : List D := [encF 3 d_III x]
theorem dq_LIIIE (x : (List (Int × Int × Int))) : d_LIIIE x = [encF 3 d_III x] := by rw [d_LIIIE]
def g_LIIIE : List D → (List (Int × Int × Int))
  | [a] => decF g_III a
  | _ => default
theorem gd_LIIIE (x : (List (Int × Int × Int))) : g_LIIIE (d_LIIIE x) = x := by simp only [g_LIIIE, d_LIIIE, dec_III]
theorem dec_LIIIE (l : List ((List (Int × Int × Int)))) : decF g_LIIIE (encF 1 d_LIIIE l) = l := decF_encF _ _ _ _ gd_LIIIE
attribute [go_sem] dq_LIIIE g_LIIIE dec_LIIIE
def d_II (x : Int × Int) : List D := [.int .i64 x.1, .int .i64 x.2]
theorem dq_II (x : Int × Int) : d_II x = [.int .i64 x.1, .int .i64 x.2] := by rw [d_II]
def g_II : List D → Int × Int
  | [.int _ a, .int _ b] => (a, b)
  | _ => default
theorem gd_II (x : Int × Int) : g_II (d_II x) = x := by rfl
theorem dec_II (l : List (Int × Int)) : decF g_II (encF 2 d_II l) = l := decF_encF _ _ _ _ gd_II
theorem fl_II (l : List (Int × Int)) : (encF 2 d_II l).flat = True := flat_enc (fun _ => rfl)
attribute [go_sem] dq_II g_II dec_II fl_II
theorem dp_II (o : Option (Int × Int)) : decP g_II (.pt o.isSome [.int .i64 (o.getD default).1, .int .i64 (o.getD default).2]) = o := by have := decP_encP gd_II o; rwa [dq_II] at this
attribute [go_sem] dp_II
def d_LIIE (x : (List (Int × Int))) : List D := [encF 2 d_II x]
theorem dq_LIIE (x : (List (Int × Int))) : d_LIIE x = [encF 2 d_II x] := by rw [d_LIIE]
def g_LIIE : List D → (List (Int × Int))
  | [a] => decF g_II a
  | _ => default
theorem gd_LIIE (x : (List (Int × Int))) : g_LIIE (d_LIIE x) = x := by simp only [g_LIIE, d_LIIE, dec_II]
theorem dec_LIIE (l : List ((List (Int × Int)))) : decF g_LIIE (encF 1 d_LIIE l) = l := decF_encF _ _ _ _ gd_LIIE
attribute [go_sem] dq_LIIE g_LIIE dec_LIIE
def d_I (x : Int) : List D := [.int .i64 x]
theorem dq_I (x : Int) : d_I x = [.int .i64 x] := by rw [d_I]
def g_I : List D → Int
  | [.int _ a] => a
  | _ => default
theorem gd_I (x : Int) : g_I (d_I x) = x := by rfl
theorem dec_I (l : List (Int)) : decF g_I (encF 1 d_I l) = l := decF_encF _ _ _ _ gd_I
theorem fl_I (l : List (Int)) : (encF 1 d_I l).flat = True := flat_enc (fun _ => rfl)
attribute [go_sem] dq_I g_I dec_I fl_I
def d_ILIIEI (x : Int × (List (Int × Int)) × Int) : List D := [.int .i64 x.1, encF 2 d_II x.2.1, .int .i64 x.2.2]
theorem dq_ILIIEI (x : Int × (List (Int × Int)) × Int) : d_ILIIEI x = [.int .i64 x.1, encF 2 d_II x.2.1, .int .i64 x.2.2] := by rw [d_ILIIEI]
def g_ILIIEI : List D → Int × (List (Int × Int)) × Int
  | [.int _ a, b, .int _ c] => (a, decF g_II b, c)
  | _ => default
theorem gd_ILIIEI (x : Int × (List (Int × Int)) × Int) : g_ILIIEI (d_ILIIEI x) = x := by simp only [g_ILIIEI, d_ILIIEI, dec_II]
theorem dec_ILIIEI (l : List (Int × (List (Int × Int)) × Int)) : decF g_ILIIEI (encF 3 d_ILIIEI l) = l := decF_encF _ _ _ _ gd_ILIIEI
attribute [go_sem] dq_ILIIEI g_ILIIEI dec_ILIIEI
theorem dp_ILIIEI (o : Option (Int × (List (Int × Int)) × Int)) : decP g_ILIIEI (.pt o.isSome [.int .i64 (o.getD default).1, encF 2 d_II (o.getD default).2.1, .int .i64 (o.getD default).2.2]) = o := by have := decP_encP gd_ILIIEI o; rwa [dq_ILIIEI] at this
attribute [go_sem] dp_ILIIEI
def d_LILIIEIE (x : (List (Int × (List (Int × Int)) × Int))) : List D := [encF 3 d_ILIIEI x]
theorem dq_LILIIEIE (x : (List (Int × (List (Int × Int)) × Int))) : d_LILIIEIE x = [encF 3 d_ILIIEI x] := by rw [d_LILIIEIE]
def g_LILIIEIE : List D → (List (Int × (List (Int × Int)) × Int))
  | [a] => decF g_ILIIEI a
  | _ => default
theorem gd_LILIIEIE (x : (List (Int × (List (Int × Int)) × Int))) : g_LILIIEIE (d_LILIIEIE x) = x := by simp only [g_LILIIEIE, d_LILIIEIE, dec_ILIIEI]
theorem dec_LILIIEIE (l : List ((List (Int × (List (Int × Int)) × Int)))) : decF g_LILIIEIE (encF 1 d_LILIIEIE l) = l := decF_encF _ _ _ _ gd_LILIIEIE
attribute [go_sem] dq_LILIIEIE g_LILIIEIE dec_LILIIEIE
def d_B (x : Bool) : List D := [.bool x]
theorem dq_B (x : Bool) : d_B x = [.bool x] := by rw [d_B]
def g_B : List D → Bool
  | [.bool a] => a
  | _ => default
theorem gd_B (x : Bool) : g_B (d_B x) = x := by rfl
theorem dec_B (l : List (Bool)) : decF g_B (encF 1 d_B l) = l := decF_encF _ _ _ _ gd_B
theorem fl_B (l : List (Bool)) : (encF 1 d_B l).flat = True := flat_enc (fun _ => rfl)
attribute [go_sem] dq_B g_B dec_B fl_B
def d_LIE (x : (List (Int))) : List D := [encF 1 d_I x]
theorem dq_LIE (x : (List (Int))) : d_LIE x = [encF 1 d_I x] := by rw [d_LIE]
def g_LIE : List D → (List (Int))
  | [a] => decF g_I a
  | _ => default
theorem gd_LIE (x : (List (Int))) : g_LIE (d_LIE x) = x := by simp only [g_LIE, d_LIE, dec_I]
theorem dec_LIE (l : List ((List (Int)))) : decF g_LIE (encF 1 d_LIE l) = l := decF_encF _ _ _ _ gd_LIE
attribute [go_sem] dq_LIE g_LIE dec_LIE
attribute [go_sem] encP Option.isSome_none
end Go.Proofs.YtfkmbdfajpdjjaaDoor

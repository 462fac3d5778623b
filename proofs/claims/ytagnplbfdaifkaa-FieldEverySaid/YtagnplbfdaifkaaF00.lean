/- Lists in cells, written by wip/dec. -/
import Derived.Test.YtagnplbfdaifkaaTy
import Derived.Test.YtagnplbfdaifkaaAbsTac
import Derived.WalkKit
set_option linter.unusedVariables false
set_option linter.unusedSimpArgs false
set_option maxHeartbeats 4000000
set_option maxRecDepth 20000
namespace Go.Proofs.Ytagnplbfdaifkaa
open Go.Abs
attribute [go_sem] eqvO_can eqv_can can_cat can_cat0 can_ofList canW_ofList eqvLL can_setF can_set can_sub can_rep oneOne
def d_I (x : Int) : List D := [.int .i64 x]
theorem dq_I (x : Int) : d_I x = [.int .i64 x] := by rw [d_I]
def g_I : List D → Int
  | [.int _ a] => a
  | _ => default
theorem gd_I (x : Int) : g_I (d_I x) = x := by rfl
theorem dec_I (l : List (Int)) : decF g_I (encF 1 d_I l) = l := decF_encF _ _ _ _ gd_I
theorem fl_I (l : List (Int)) : (encF 1 d_I l).flat = True := flat_enc (fun _ => rfl)
attribute [go_sem] dq_I g_I dec_I fl_I
def d_III (x : Int × Int × Int) : List D := [.int .i64 x.1, .int .i64 x.2.1, .int .i64 x.2.2]
theorem dq_III (x : Int × Int × Int) : d_III x = [.int .i64 x.1, .int .i64 x.2.1, .int .i64 x.2.2] := by rw [d_III]
def g_III : List D → Int × Int × Int
  | [.int _ a, .int _ b, .int _ c] => (a, b, c)
  | _ => default
theorem gd_III (x : Int × Int × Int) : g_III (d_III x) = x := by rfl
theorem dec_III (l : List (Int × Int × Int)) : decF g_III (encF 3 d_III l) = l := decF_encF _ _ _ _ gd_III
theorem fl_III (l : List (Int × Int × Int)) : (encF 3 d_III l).flat = True := flat_enc (fun _ => rfl)
attribute [go_sem] dq_III g_III dec_III fl_III
def d_LIIIE (x : (List (Int × Int × Int))) : List D := [encF 3 d_III x]
theorem dq_LIIIE (x : (List (Int × Int × Int))) : d_LIIIE x = [encF 3 d_III x] := by rw [d_LIIIE]
def g_LIIIE : List D → (List (Int × Int × Int))
  | [a] => decF g_III a
  | _ => default
theorem gd_LIIIE (x : (List (Int × Int × Int))) : g_LIIIE (d_LIIIE x) = x := by simp only [g_LIIIE, d_LIIIE, dec_III]
theorem dec_LIIIE (l : List ((List (Int × Int × Int)))) : decF g_LIIIE (encF 1 d_LIIIE l) = l := decF_encF _ _ _ _ gd_LIIIE
attribute [go_sem] dq_LIIIE g_LIIIE dec_LIIIE
def d_B (x : Bool) : List D := [.bool x]
theorem dq_B (x : Bool) : d_B x = [.bool x] := by rw [d_B]
def g_B : List D → Bool
  | [.bool a] => a
  | _ => default
theorem gd_B (x : Bool) : g_B (d_B x) = x := by rfl
theorem dec_B (l : List (Bool)) : decF g_B (encF 1 d_B l) = l := decF_encF _ _ _ _ gd_B
theorem fl_B (l : List (Bool)) : (encF 1 d_B l).flat = True := flat_enc (fun _ => rfl)
attribute [go_sem] dq_B g_B dec_B fl_B
def d_LBE (x : (List (Bool))) : List D := [encF 1 d_B x]
theorem dq_LBE (x : (List (Bool))) : d_LBE x = [encF 1 d_B x] := by rw [d_LBE]
def g_LBE : List D → (List (Bool))
  | [a] => decF g_B a
  | _ => default
theorem gd_LBE (x : (List (Bool))) : g_LBE (d_LBE x) = x := by simp only [g_LBE, d_LBE, dec_B]
theorem dec_LBE (l : List ((List (Bool)))) : decF g_LBE (encF 1 d_LBE l) = l := decF_encF _ _ _ _ gd_LBE
attribute [go_sem] dq_LBE g_LBE dec_LBE
def d_LIE (x : (List (Int))) : List D := [encF 1 d_I x]
theorem dq_LIE (x : (List (Int))) : d_LIE x = [encF 1 d_I x] := by rw [d_LIE]
def g_LIE : List D → (List (Int))
  | [a] => decF g_I a
  | _ => default
theorem gd_LIE (x : (List (Int))) : g_LIE (d_LIE x) = x := by simp only [g_LIE, d_LIE, dec_I]
theorem dec_LIE (l : List ((List (Int)))) : decF g_LIE (encF 1 d_LIE l) = l := decF_encF _ _ _ _ gd_LIE
attribute [go_sem] dq_LIE g_LIE dec_LIE
def d_II (x : Int × Int) : List D := [.int .i64 x.1, .int .i64 x.2]
theorem dq_II (x : Int × Int) : d_II x = [.int .i64 x.1, .int .i64 x.2] := by rw [d_II]
def g_II : List D → Int × Int
  | [.int _ a, .int _ b] => (a, b)
  | _ => default
theorem gd_II (x : Int × Int) : g_II (d_II x) = x := by rfl
theorem dec_II (l : List (Int × Int)) : decF g_II (encF 2 d_II l) = l := decF_encF _ _ _ _ gd_II
theorem fl_II (l : List (Int × Int)) : (encF 2 d_II l).flat = True := flat_enc (fun _ => rfl)
attribute [go_sem] dq_II g_II dec_II fl_II
def d_LIIE (x : (List (Int × Int))) : List D := [encF 2 d_II x]
theorem dq_LIIE (x : (List (Int × Int))) : d_LIIE x = [encF 2 d_II x] := by rw [d_LIIE]
def g_LIIE : List D → (List (Int × Int))
  | [a] => decF g_II a
  | _ => default
theorem gd_LIIE (x : (List (Int × Int))) : g_LIIE (d_LIIE x) = x := by simp only [g_LIIE, d_LIIE, dec_II]
theorem dec_LIIE (l : List ((List (Int × Int)))) : decF g_LIIE (encF 1 d_LIIE l) = l := decF_encF _ _ _ _ gd_LIIE
attribute [go_sem] dq_LIIE g_LIIE dec_LIIE
def d_ILIIIE (x : Int × (List (Int × Int × Int))) : List D := [.int .i64 x.1, encF 3 d_III x.2]
theorem dq_ILIIIE (x : Int × (List (Int × Int × Int))) : d_ILIIIE x = [.int .i64 x.1, encF 3 d_III x.2] := by rw [d_ILIIIE]
def g_ILIIIE : List D → Int × (List (Int × Int × Int))
  | [.int _ a, b] => (a, decF g_III b)
  | _ => default
theorem gd_ILIIIE (x : Int × (List (Int × Int × Int))) : g_ILIIIE (d_ILIIIE x) = x := by simp only [g_ILIIIE, d_ILIIIE, dec_III]
theorem dec_ILIIIE (l : List (Int × (List (Int × Int × Int)))) : decF g_ILIIIE (encF 2 d_ILIIIE l) = l := decF_encF _ _ _ _ gd_ILIIIE
attribute [go_sem] dq_ILIIIE g_ILIIIE dec_ILIIIE
def d_LILIIIEE (x : (List (Int × (List (Int × Int × Int))))) : List D := [encF 2 d_ILIIIE x]
theorem dq_LILIIIEE (x : (List (Int × (List (Int × Int × Int))))) : d_LILIIIEE x = [encF 2 d_ILIIIE x] := by rw [d_LILIIIEE]
def g_LILIIIEE : List D → (List (Int × (List (Int × Int × Int))))
  | [a] => decF g_ILIIIE a
  | _ => default
theorem gd_LILIIIEE (x : (List (Int × (List (Int × Int × Int))))) : g_LILIIIEE (d_LILIIIEE x) = x := by simp only [g_LILIIIEE, d_LILIIIEE, dec_ILIIIE]
theorem dec_LILIIIEE (l : List ((List (Int × (List (Int × Int × Int)))))) : decF g_LILIIIEE (encF 1 d_LILIIIEE l) = l := decF_encF _ _ _ _ gd_LILIIIEE
attribute [go_sem] dq_LILIIIEE g_LILIIIEE dec_LILIIIEE
end Go.Proofs.Ytagnplbfdaifkaa

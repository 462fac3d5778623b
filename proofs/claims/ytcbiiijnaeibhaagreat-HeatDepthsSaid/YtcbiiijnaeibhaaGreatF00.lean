/- Lists in cells, written by wip/dec. -/
import Derived.Test.YtcbiiijnaeibhaaGreatTy
import Derived.Test.YtcbiiijnaeibhaaGreatAbsTac
import Derived.WalkKit
set_option linter.unusedVariables false
set_option linter.unusedSimpArgs false
set_option maxHeartbeats 4000000
set_option maxRecDepth 20000
namespace Go.Proofs.YtcbiiijnaeibhaaGreat
open Go.Abs
attribute [go_sem] eqvO_can eqv_can can_cat can_cat0 can_ofList canW_ofList eqvLL can_setF can_set can_sub can_rep oneOne
def d_I (x : Int) : List D := [.int .i64 x]
theorem dq_I (x : Int) : d_I x = [.int .i64 x] := by rw [d_I]
def g_I : List D → Int
  | [.int _ a] => a
  | _ => default
theorem gd_I (x : Int) : g_I (d_I x) = x := by rfl
theorem dec_I (l : List (Int)) : decF g_I (encF 1 d_I l) = l := decF_encF _ _ _ _ gd_I
theorem fl_I (l : List (Int)) : (encF 1 d_I l).flat = True := flat_enc (fun _ => rfl)
attribute [go_sem] dq_I g_I dec_I fl_I
def d_II (x : Int × Int) : List D := [.int .i64 x.1, .int .i64 x.2]
theorem dq_II (x : Int × Int) : d_II x = [.int .i64 x.1, .int .i64 x.2] := by rw [d_II]
def g_II : List D → Int × Int
  | [.int _ a, .int _ b] => (a, b)
  | _ => default
theorem gd_II (x : Int × Int) : g_II (d_II x) = x := by rfl
theorem dec_II (l : List (Int × Int)) : decF g_II (encF 2 d_II l) = l := decF_encF _ _ _ _ gd_II
theorem fl_II (l : List (Int × Int)) : (encF 2 d_II l).flat = True := flat_enc (fun _ => rfl)
attribute [go_sem] dq_II g_II dec_II fl_II
def d_LIIE (x : (List (Int × Int))) : List D := [encF 2 d_II x]
theorem dq_LIIE (x : (List (Int × Int))) : d_LIIE x = [encF 2 d_II x] := by rw [d_LIIE]
def g_LIIE : List D → (List (Int × Int))
  | [a] => decF g_II a
  | _ => default
theorem gd_LIIE (x : (List (Int × Int))) : g_LIIE (d_LIIE x) = x := by simp only [g_LIIE, d_LIIE, dec_II]
theorem dec_LIIE (l : List ((List (Int × Int)))) : decF g_LIIE (encF 1 d_LIIE l) = l := decF_encF _ _ _ _ gd_LIIE
attribute [go_sem] dq_LIIE g_LIIE dec_LIIE
def d_LLIIEE (x : (List ((List (Int × Int))))) : List D := [encF 1 d_LIIE x]
theorem dq_LLIIEE (x : (List ((List (Int × Int))))) : d_LLIIEE x = [encF 1 d_LIIE x] := by rw [d_LLIIEE]
def g_LLIIEE : List D → (List ((List (Int × Int))))
  | [a] => decF g_LIIE a
  | _ => default
theorem gd_LLIIEE (x : (List ((List (Int × Int))))) : g_LLIIEE (d_LLIIEE x) = x := by simp only [g_LLIIEE, d_LLIIEE, dec_LIIE]
theorem dec_LLIIEE (l : List ((List ((List (Int × Int)))))) : decF g_LLIIEE (encF 1 d_LLIIEE l) = l := decF_encF _ _ _ _ gd_LLIIEE
attribute [go_sem] dq_LLIIEE g_LLIIEE dec_LLIIEE
def d_B (x : Bool) : List D := [.bool x]
theorem dq_B (x : Bool) : d_B x = [.bool x] := by rw [d_B]
def g_B : List D → Bool
  | [.bool a] => a
  | _ => default
theorem gd_B (x : Bool) : g_B (d_B x) = x := by rfl
theorem dec_B (l : List (Bool)) : decF g_B (encF 1 d_B l) = l := decF_encF _ _ _ _ gd_B
theorem fl_B (l : List (Bool)) : (encF 1 d_B l).flat = True := flat_enc (fun _ => rfl)
attribute [go_sem] dq_B g_B dec_B fl_B
def d_LIE (x : (List (Int))) : List D := [encF 1 d_I x]
theorem dq_LIE (x : (List (Int))) : d_LIE x = [encF 1 d_I x] := by rw [d_LIE]
def g_LIE : List D → (List (Int))
  | [a] => decF g_I a
  | _ => default
theorem gd_LIE (x : (List (Int))) : g_LIE (d_LIE x) = x := by simp only [g_LIE, d_LIE, dec_I]
theorem dec_LIE (l : List ((List (Int)))) : decF g_LIE (encF 1 d_LIE l) = l := decF_encF _ _ _ _ gd_LIE
attribute [go_sem] dq_LIE g_LIE dec_LIE
def d_LIIEII (x : (List (Int × Int)) × Int × Int) : List D := [encF 2 d_II x.1, .int .i64 x.2.1, .int .i64 x.2.2]
theorem dq_LIIEII (x : (List (Int × Int)) × Int × Int) : d_LIIEII x = [encF 2 d_II x.1, .int .i64 x.2.1, .int .i64 x.2.2] := by rw [d_LIIEII]
def g_LIIEII : List D → (List (Int × Int)) × Int × Int
  | [a, .int _ b, .int _ c] => (decF g_II a, b, c)
  | _ => default
theorem gd_LIIEII (x : (List (Int × Int)) × Int × Int) : g_LIIEII (d_LIIEII x) = x := by simp only [g_LIIEII, d_LIIEII, dec_II]
theorem dec_LIIEII (l : List ((List (Int × Int)) × Int × Int)) : decF g_LIIEII (encF 3 d_LIIEII l) = l := decF_encF _ _ _ _ gd_LIIEII
attribute [go_sem] dq_LIIEII g_LIIEII dec_LIIEII
def d_LLIIEIIE (x : (List ((List (Int × Int)) × Int × Int))) : List D := [encF 3 d_LIIEII x]
theorem dq_LLIIEIIE (x : (List ((List (Int × Int)) × Int × Int))) : d_LLIIEIIE x = [encF 3 d_LIIEII x] := by rw [d_LLIIEIIE]
def g_LLIIEIIE : List D → (List ((List (Int × Int)) × Int × Int))
  | [a] => decF g_LIIEII a
  | _ => default
theorem gd_LLIIEIIE (x : (List ((List (Int × Int)) × Int × Int))) : g_LLIIEIIE (d_LLIIEIIE x) = x := by simp only [g_LLIIEIIE, d_LLIIEIIE, dec_LIIEII]
theorem dec_LLIIEIIE (l : List ((List ((List (Int × Int)) × Int × Int)))) : decF g_LLIIEIIE (encF 1 d_LLIIEIIE l) = l := decF_encF _ _ _ _ gd_LLIIEIIE
attribute [go_sem] dq_LLIIEIIE g_LLIIEIIE dec_LLIIEIIE
def d_LIELIE (x : (List (Int)) × (List (Int))) : List D := [encF 1 d_I x.1, encF 1 d_I x.2]
theorem dq_LIELIE (x : (List (Int)) × (List (Int))) : d_LIELIE x = [encF 1 d_I x.1, encF 1 d_I x.2] := by rw [d_LIELIE]
def g_LIELIE : List D → (List (Int)) × (List (Int))
  | [a, b] => (decF g_I a, decF g_I b)
  | _ => default
theorem gd_LIELIE (x : (List (Int)) × (List (Int))) : g_LIELIE (d_LIELIE x) = x := by simp only [g_LIELIE, d_LIELIE, dec_I, dec_I]
theorem dec_LIELIE (l : List ((List (Int)) × (List (Int)))) : decF g_LIELIE (encF 2 d_LIELIE l) = l := decF_encF _ _ _ _ gd_LIELIE
attribute [go_sem] dq_LIELIE g_LIELIE dec_LIELIE
def d_LLIELIEE (x : (List ((List (Int)) × (List (Int))))) : List D := [encF 2 d_LIELIE x]
theorem dq_LLIELIEE (x : (List ((List (Int)) × (List (Int))))) : d_LLIELIEE x = [encF 2 d_LIELIE x] := by rw [d_LLIELIEE]
def g_LLIELIEE : List D → (List ((List (Int)) × (List (Int))))
  | [a] => decF g_LIELIE a
  | _ => default
theorem gd_LLIELIEE (x : (List ((List (Int)) × (List (Int))))) : g_LLIELIEE (d_LLIELIEE x) = x := by simp only [g_LLIELIEE, d_LLIELIEE, dec_LIELIE]
theorem dec_LLIELIEE (l : List ((List ((List (Int)) × (List (Int)))))) : decF g_LLIELIEE (encF 1 d_LLIELIEE l) = l := decF_encF _ _ _ _ gd_LLIELIEE
attribute [go_sem] dq_LLIELIEE g_LLIELIEE dec_LLIELIEE
def d_LLIEE (x : (List ((List (Int))))) : List D := [encF 1 d_LIE x]
theorem dq_LLIEE (x : (List ((List (Int))))) : d_LLIEE x = [encF 1 d_LIE x] := by rw [d_LLIEE]
def g_LLIEE : List D → (List ((List (Int))))
  | [a] => decF g_LIE a
  | _ => default
theorem gd_LLIEE (x : (List ((List (Int))))) : g_LLIEE (d_LLIEE x) = x := by simp only [g_LLIEE, d_LLIEE, dec_LIE]
theorem dec_LLIEE (l : List ((List ((List (Int)))))) : decF g_LLIEE (encF 1 d_LLIEE l) = l := decF_encF _ _ _ _ gd_LLIEE
attribute [go_sem] dq_LLIEE g_LLIEE dec_LLIEE
end Go.Proofs.YtcbiiijnaeibhaaGreat

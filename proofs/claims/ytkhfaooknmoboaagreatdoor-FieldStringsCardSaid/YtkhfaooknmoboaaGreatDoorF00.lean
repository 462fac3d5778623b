/- Lists in cells, written by wip/dec. -/
import Derived.Test.YtkhfaooknmoboaaGreatDoorTy
import Derived.Test.YtkhfaooknmoboaaGreatDoorAbsTac
import Derived.Test.YtkhfaooknmoboaaGreatDoorLib
import Derived.WalkKit
set_option linter.unusedVariables false
set_option linter.unusedSimpArgs false
set_option maxHeartbeats 4000000
set_option maxRecDepth 20000
namespace Go.Proofs.YtkhfaooknmoboaaGreatDoor
open Go.Abs
attribute [go_sem] eqvO_can eqv_can can_cat can_cat0 can_ofList canW_ofList eqvLL can_setF can_set can_sub can_rep oneOne
theorem lapp_nil {α : Type} (r : List α) : List.append [] r = r := rfl
theorem lapp_cons {α : Type} (a : α) (l r : List α) : List.append (a :: l) r = a :: List.append l r := rfl
attribute [go_sem] lapp_nil lapp_cons
def d_I (x : Int) : List D := [.int .i64 x]
theorem dq_I (x : Int) : d_I x = [.int .i64 x] := by rw [d_I]
def g_I : List D → Int
  | [.int _ a] => a
  | _ => default
theorem gd_I (x : Int) : g_I (d_I x) = x := by rfl
theorem dec_I (l : List (Int)) : decF g_I (encF 1 d_I l) = l := decF_encF _ _ _ _ gd_I
theorem fl_I (l : List (Int)) : (encF 1 d_I l).flat = True := flat_enc (fun _ => rfl)
attribute [go_sem] dq_I g_I dec_I fl_I
def d_III (x : Int × Int × Int) : List D := [.int .i64 x.1, .int .i64 x.2.1, .int .i64 x.2.2]
theorem dq_III (x : Int × Int × Int) : d_III x = [.int .i64 x.1, .int .i64 x.2.1, .int .i64 x.2.2] := by rw [d_III]
def g_III : List D → Int × Int × Int
  | [.int _ a, .int _ b, .int _ c] => (a, b, c)
  | _ => default
theorem gd_III (x : Int × Int × Int) : g_III (d_III x) = x := by rfl
theorem dec_III (l : List (Int × Int × Int)) : decF g_III (encF 3 d_III l) = l := decF_encF _ _ _ _ gd_III
theorem fl_III (l : List (Int × Int × Int)) : (encF 3 d_III l).flat = True := flat_enc (fun _ => rfl)
attribute [go_sem] dq_III g_III dec_III fl_III
def d_LIIIE (x : (List (Int × Int × Int))) : List D := [encF 3 d_III x]
theorem dq_LIIIE (x : (List (Int × Int × Int))) : d_LIIIE x = [encF 3 d_III x] := by rw [d_LIIIE]
def g_LIIIE : List D → (List (Int × Int × Int))
  | [a] => decF g_III a
  | _ => default
theorem gd_LIIIE (x : (List (Int × Int × Int))) : g_LIIIE (d_LIIIE x) = x := by simp only [g_LIIIE, d_LIIIE, dec_III]
theorem dec_LIIIE (l : List ((List (Int × Int × Int)))) : decF g_LIIIE (encF 1 d_LIIIE l) = l := decF_encF _ _ _ _ gd_LIIIE
attribute [go_sem] dq_LIIIE g_LIIIE dec_LIIIE
def d_B (x : Bool) : List D := [.bool x]
theorem dq_B (x : Bool) : d_B x = [.bool x] := by rw [d_B]
def g_B : List D → Bool
  | [.bool a] => a
  | _ => default
theorem gd_B (x : Bool) : g_B (d_B x) = x := by rfl
theorem dec_B (l : List (Bool)) : decF g_B (encF 1 d_B l) = l := decF_encF _ _ _ _ gd_B
theorem fl_B (l : List (Bool)) : (encF 1 d_B l).flat = True := flat_enc (fun _ => rfl)
attribute [go_sem] dq_B g_B dec_B fl_B
def d_LBE (x : (List (Bool))) : List D := [encF 1 d_B x]
theorem dq_LBE (x : (List (Bool))) : d_LBE x = [encF 1 d_B x] := by rw [d_LBE]
def g_LBE : List D → (List (Bool))
  | [a] => decF g_B a
  | _ => default
theorem gd_LBE (x : (List (Bool))) : g_LBE (d_LBE x) = x := by simp only [g_LBE, d_LBE, dec_B]
theorem dec_LBE (l : List ((List (Bool)))) : decF g_LBE (encF 1 d_LBE l) = l := decF_encF _ _ _ _ gd_LBE
attribute [go_sem] dq_LBE g_LBE dec_LBE
def d_LIE (x : (List (Int))) : List D := [encF 1 d_I x]
theorem dq_LIE (x : (List (Int))) : d_LIE x = [encF 1 d_I x] := by rw [d_LIE]
def g_LIE : List D → (List (Int))
  | [a] => decF g_I a
  | _ => default
theorem gd_LIE (x : (List (Int))) : g_LIE (d_LIE x) = x := by simp only [g_LIE, d_LIE, dec_I]
theorem dec_LIE (l : List ((List (Int)))) : decF g_LIE (encF 1 d_LIE l) = l := decF_encF _ _ _ _ gd_LIE
attribute [go_sem] dq_LIE g_LIE dec_LIE
def d_II (x : Int × Int) : List D := [.int .i64 x.1, .int .i64 x.2]
theorem dq_II (x : Int × Int) : d_II x = [.int .i64 x.1, .int .i64 x.2] := by rw [d_II]
def g_II : List D → Int × Int
  | [.int _ a, .int _ b] => (a, b)
  | _ => default
theorem gd_II (x : Int × Int) : g_II (d_II x) = x := by rfl
theorem dec_II (l : List (Int × Int)) : decF g_II (encF 2 d_II l) = l := decF_encF _ _ _ _ gd_II
theorem fl_II (l : List (Int × Int)) : (encF 2 d_II l).flat = True := flat_enc (fun _ => rfl)
attribute [go_sem] dq_II g_II dec_II fl_II
def d_LIIE (x : (List (Int × Int))) : List D := [encF 2 d_II x]
theorem dq_LIIE (x : (List (Int × Int))) : d_LIIE x = [encF 2 d_II x] := by rw [d_LIIE]
def g_LIIE : List D → (List (Int × Int))
  | [a] => decF g_II a
  | _ => default
theorem gd_LIIE (x : (List (Int × Int))) : g_LIIE (d_LIIE x) = x := by simp only [g_LIIE, d_LIIE, dec_II]
theorem dec_LIIE (l : List ((List (Int × Int)))) : decF g_LIIE (encF 1 d_LIIE l) = l := decF_encF _ _ _ _ gd_LIIE
attribute [go_sem] dq_LIIE g_LIIE dec_LIIE
def d_S (x : ByteArray) : List D := [.str x]
theorem dq_S (x : ByteArray) : d_S x = [.str x] := by rw [d_S]
def g_S : List D → ByteArray
  | [.str a] => a
  | _ => default
theorem gd_S (x : ByteArray) : g_S (d_S x) = x := by rfl
theorem dec_S (l : List (ByteArray)) : decF g_S (encF 1 d_S l) = l := decF_encF _ _ _ _ gd_S
theorem fl_S (l : List (ByteArray)) : (encF 1 d_S l).flat = True := flat_enc (fun _ => rfl)
attribute [go_sem] dq_S g_S dec_S fl_S
def d_LSE (x : (List (ByteArray))) : List D := [encF 1 d_S x]
theorem dq_LSE (x : (List (ByteArray))) : d_LSE x = [encF 1 d_S x] := by rw [d_LSE]
def g_LSE : List D → (List (ByteArray))
  | [a] => decF g_S a
  | _ => default
theorem gd_LSE (x : (List (ByteArray))) : g_LSE (d_LSE x) = x := by simp only [g_LSE, d_LSE, dec_S]
theorem dec_LSE (l : List ((List (ByteArray)))) : decF g_LSE (encF 1 d_LSE l) = l := decF_encF _ _ _ _ gd_LSE
attribute [go_sem] dq_LSE g_LSE dec_LSE
def d_E (x : Bool) : List D := [.err x]
theorem dq_E (x : Bool) : d_E x = [.err x] := by rw [d_E]
def g_E : List D → Bool
  | [.err a] => a
  | _ => default
theorem gd_E (x : Bool) : g_E (d_E x) = x := by rfl
theorem dec_E (l : List (Bool)) : decF g_E (encF 1 d_E l) = l := decF_encF _ _ _ _ gd_E
theorem fl_E (l : List (Bool)) : (encF 1 d_E l).flat = True := flat_enc (fun _ => rfl)
attribute [go_sem] dq_E g_E dec_E fl_E
def d_Ku8 (x : Int) : List D := [.int .u8 x]
theorem dq_Ku8 (x : Int) : d_Ku8 x = [.int .u8 x] := by rw [d_Ku8]
def g_Ku8 : List D → Int
  | [.int _ a] => a
  | _ => default
theorem gd_Ku8 (x : Int) : g_Ku8 (d_Ku8 x) = x := by rfl
theorem dec_Ku8 (l : List (Int)) : decF g_Ku8 (encF 1 d_Ku8 l) = l := decF_encF _ _ _ _ gd_Ku8
theorem fl_Ku8 (l : List (Int)) : (encF 1 d_Ku8 l).flat = True := flat_enc (fun _ => rfl)
attribute [go_sem] dq_Ku8 g_Ku8 dec_Ku8 fl_Ku8
abbrev qA0 := Unit
def qw0 : List Arg := []
def qE0 : qA0 → List Arg := fun _ => qw0
def qd0 (a : List Arg) : qA0 := ()
def qp0 {β : Type} (f : β) : β := f 
def qt0 : List Arg := []
attribute [go_sem] qw0 qp0 qt0 qE0
abbrev qA1 := Int × Int × Int
def qw1 (a0 : Int) (a1 : Int) (a2 : Int) : List Arg := [.c (.int .i64 a0), .c (.int .i64 a1), .c (.int .i64 a2)]
def qE1 : qA1 → List Arg := fun ⟨a0, a1, a2⟩ => qw1 a0 a1 a2
def qd1 (a : List Arg) : qA1 := (dInt (aCell a 0 0), dInt (aCell a 1 0), dInt (aCell a 2 0))
def qp1 {β : Type} (f : Int → Int → Int → β) (c0 c1 c2 : D) : β := f (dInt c0) (dInt c1) (dInt c2)
def qt1 (c0 c1 c2 : D) : List Arg := [.c c0, .c c1, .c c2]
attribute [go_sem] qw1 qp1 qt1 qE1
abbrev qA3 := (List (Int))
def qw3 (a0 : List (Int)) : List Arg := [.c (encF 1 d_I a0)]
def qE3 : qA3 → List Arg := qw3
def qd3 (a : List Arg) : qA3 := decF g_I (aCell a 0 0)
def qp3 {β : Type} (f : (List (Int)) → β) (c0 : D) : β := f (decF g_I c0)
def qt3 (c0 : D) : List Arg := [.c c0]
attribute [go_sem] qw3 qp3 qt3 qE3
abbrev qA4 := Int
def qw4 (a0 : Int) : List Arg := [.c (.int .i64 a0)]
def qE4 : qA4 → List Arg := qw4
def qd4 (a : List Arg) : qA4 := dInt (aCell a 0 0)
def qp4 {β : Type} (f : Int → β) (c0 : D) : β := f (dInt c0)
def qt4 (c0 : D) : List Arg := [.c c0]
attribute [go_sem] qw4 qp4 qt4 qE4
abbrev qA5 := Int × (List (Int × Int × Int))
def qw5 (a0 : Int) (a1 : List (Int × Int × Int)) : List Arg := [.agg [.int .i64 a0, encF 3 d_III a1]]
def qE5 : qA5 → List Arg := fun ⟨a0, a1⟩ => qw5 a0 a1
def qd5 (a : List Arg) : qA5 := (dInt (aCell a 0 0), decF g_III (aCell a 0 1))
def qp5 {β : Type} (f : Int → (List (Int × Int × Int)) → β) (c0 c1 : D) : β := f (dInt c0) (decF g_III c1)
def qt5 (c0 c1 : D) : List Arg := [.agg [c0, c1]]
attribute [go_sem] qw5 qp5 qt5 qE5
abbrev qA6 := Int × (List (Int × Int × Int)) × Int × (List (Bool))
def qw6 (a0 : Int) (a1 : List (Int × Int × Int)) (a2 : Int) (a3 : List (Bool)) : List Arg := [.agg [.int .i64 a0, encF 3 d_III a1], .agg [.int .i64 a2, encF 1 d_B a3]]
def qE6 : qA6 → List Arg := fun ⟨a0, a1, a2, a3⟩ => qw6 a0 a1 a2 a3
def qd6 (a : List Arg) : qA6 := (dInt (aCell a 0 0), decF g_III (aCell a 0 1), dInt (aCell a 1 0), decF g_B (aCell a 1 1))
def qp6 {β : Type} (f : Int → (List (Int × Int × Int)) → Int → (List (Bool)) → β) (c0 c1 c2 c3 : D) : β := f (dInt c0) (decF g_III c1) (dInt c2) (decF g_B c3)
def qt6 (c0 c1 c2 c3 : D) : List Arg := [.agg [c0, c1], .agg [c2, c3]]
attribute [go_sem] qw6 qp6 qt6 qE6
abbrev qA8 := Int × Int × Int × Int
def qw8 (a0 : Int) (a1 : Int) (a2 : Int) (a3 : Int) : List Arg := [.agg [.int .i64 a0, .int .i64 a1], .agg [.int .i64 a2, .int .i64 a3]]
def qE8 : qA8 → List Arg := fun ⟨a0, a1, a2, a3⟩ => qw8 a0 a1 a2 a3
def qd8 (a : List Arg) : qA8 := (dInt (aCell a 0 0), dInt (aCell a 0 1), dInt (aCell a 1 0), dInt (aCell a 1 1))
def qp8 {β : Type} (f : Int → Int → Int → Int → β) (c0 c1 c2 c3 : D) : β := f (dInt c0) (dInt c1) (dInt c2) (dInt c3)
def qt8 (c0 c1 c2 c3 : D) : List Arg := [.agg [c0, c1], .agg [c2, c3]]
attribute [go_sem] qw8 qp8 qt8 qE8
abbrev qA21 := ByteArray
def qw21 (a0 : ByteArray) : List Arg := [.c (.str a0)]
def qE21 : qA21 → List Arg := qw21
def qd21 (a : List Arg) : qA21 := dStr (aCell a 0 0)
def qp21 {β : Type} (f : ByteArray → β) (c0 : D) : β := f (dStr c0)
def qt21 (c0 : D) : List Arg := [.c c0]
attribute [go_sem] qw21 qp21 qt21 qE21
def qu0 (v : Int × (List (Int × Int × Int))) : List RV := [.agg [.d (.int .i64 v.1), .own (encF 3 d_III v.2)]]
attribute [go_sem] qu0
def qu2 (v : Bool) : List RV := [.c (.d (.bool v))]
attribute [go_sem] qu2
def qu3 (v : Int) : List RV := [.c (.d (.int .i64 v))]
attribute [go_sem] qu3
def qu4 (v : Int × Int) : List RV := [.c (.d (.int .i64 v.1)), .c (.d (.int .i64 v.2))]
attribute [go_sem] qu4
def qu7 (v : Int × Int) : List RV := [.agg [.d (.int .i64 v.1), .d (.int .i64 v.2)]]
attribute [go_sem] qu7
def qu15 (v : ByteArray) : List RV := [.c (.d (.str v))]
attribute [go_sem] qu15
def qu19 (v : Int × (List (Int × Int × Int)) × Int) : List RV := [.agg [.d (.int .i64 v.1), .own (encF 3 d_III v.2.1)], .c (.d (.int .i64 v.2.2))]
attribute [go_sem] qu19
end Go.Proofs.YtkhfaooknmoboaaGreatDoor

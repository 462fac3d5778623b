/- Lists in cells, written by wip/dec. -/
import Derived.Test.YtefijdjbhjdhdaaGreatDoorTy
import Derived.Test.YtefijdjbhjdhdaaGreatDoorAbsTac
import Derived.Test.YtefijdjbhjdhdaaGreatDoorLib
import Derived.WalkKit
set_option linter.unusedVariables false
set_option linter.unusedSimpArgs false
set_option maxHeartbeats 4000000
set_option maxRecDepth 20000
namespace Go.Proofs.YtefijdjbhjdhdaaGreatDoor
open Go.Abs
attribute [go_sem] eqvO_can eqv_can can_cat can_cat0 can_ofList canW_ofList eqvLL can_setF can_set can_sub can_rep oneOne
theorem lapp_nil {α : Type} (r : List α) : List.append [] r = r := rfl
theorem lapp_cons {α : Type} (a : α) (l r : List α) : List.append (a :: l) r = a :: List.append l r := rfl
attribute [go_sem] lapp_nil lapp_cons
def d_I (x : Int) : List D := [.int .i64 x]
theorem dq_I (x : Int) : d_I x = [.int .i64 x] := by rw [d_I]
def g_I : List D → Int
  | [.int _ a] => a
  | _ => default
theorem gd_I (x : Int) : g_I (d_I x) = x := by rfl
theorem dec_I (l : List (Int)) : decF g_I (encF 1 d_I l) = l := decF_encF _ _ _ _ gd_I
theorem fl_I (l : List (Int)) : (encF 1 d_I l).flat = True := flat_enc (fun _ => rfl)
attribute [go_sem] dq_I g_I dec_I fl_I
def d_II (x : Int × Int) : List D := [.int .i64 x.1, .int .i64 x.2]
theorem dq_II (x : Int × Int) : d_II x = [.int .i64 x.1, .int .i64 x.2] := by rw [d_II]
def g_II : List D → Int × Int
  | [.int _ a, .int _ b] => (a, b)
  | _ => default
theorem gd_II (x : Int × Int) : g_II (d_II x) = x := by rfl
theorem dec_II (l : List (Int × Int)) : decF g_II (encF 2 d_II l) = l := decF_encF _ _ _ _ gd_II
theorem fl_II (l : List (Int × Int)) : (encF 2 d_II l).flat = True := flat_enc (fun _ => rfl)
attribute [go_sem] dq_II g_II dec_II fl_II
def d_LIIE (x : (List (Int × Int))) : List D := [encF 2 d_II x]
theorem dq_LIIE (x : (List (Int × Int))) : d_LIIE x = [encF 2 d_II x] := by rw [d_LIIE]
def g_LIIE : List D → (List (Int × Int))
  | [a] => decF g_II a
  | _ => default
theorem gd_LIIE (x : (List (Int × Int))) : g_LIIE (d_LIIE x) = x := by simp only [g_LIIE, d_LIIE, dec_II]
theorem dec_LIIE (l : List ((List (Int × Int)))) : decF g_LIIE (encF 1 d_LIIE l) = l := decF_encF _ _ _ _ gd_LIIE
theorem ed_LIIE {l : List ((List (Int × Int)))} {d : D} (h : CanD 2 d_II l d) : EqvD d (encF 1 d_LIIE l) = True := eqvD_can (fun _ => rfl) h
theorem cde_LIIE (l : List ((List (Int × Int)))) : CanD 2 d_II l (encF 1 d_LIIE l) = True := canD_enc (fun _ => rfl) l
attribute [go_sem] ed_LIIE cde_LIIE
attribute [go_sem] dq_LIIE g_LIIE dec_LIIE
def d_LLIIEE (x : (List ((List (Int × Int))))) : List D := [encF 1 d_LIIE x]
theorem dq_LLIIEE (x : (List ((List (Int × Int))))) : d_LLIIEE x = [encF 1 d_LIIE x] := by rw [d_LLIIEE]
def g_LLIIEE : List D → (List ((List (Int × Int))))
  | [a] => decF g_LIIE a
  | _ => default
theorem gd_LLIIEE (x : (List ((List (Int × Int))))) : g_LLIIEE (d_LLIIEE x) = x := by simp only [g_LLIIEE, d_LLIIEE, dec_LIIE]
theorem dec_LLIIEE (l : List ((List ((List (Int × Int)))))) : decF g_LLIIEE (encF 1 d_LLIIEE l) = l := decF_encF _ _ _ _ gd_LLIIEE
theorem ed_LLIIEE {l : List ((List ((List (Int × Int)))))} {d : D} (h : CanD 1 d_LIIE l d) : EqvD d (encF 1 d_LLIIEE l) = True := eqvD_can (fun _ => rfl) h
theorem cde_LLIIEE (l : List ((List ((List (Int × Int)))))) : CanD 1 d_LIIE l (encF 1 d_LLIIEE l) = True := canD_enc (fun _ => rfl) l
attribute [go_sem] ed_LLIIEE cde_LLIIEE
attribute [go_sem] dq_LLIIEE g_LLIIEE dec_LLIIEE
def d_B (x : Bool) : List D := [.bool x]
theorem dq_B (x : Bool) : d_B x = [.bool x] := by rw [d_B]
def g_B : List D → Bool
  | [.bool a] => a
  | _ => default
theorem gd_B (x : Bool) : g_B (d_B x) = x := by rfl
theorem dec_B (l : List (Bool)) : decF g_B (encF 1 d_B l) = l := decF_encF _ _ _ _ gd_B
theorem fl_B (l : List (Bool)) : (encF 1 d_B l).flat = True := flat_enc (fun _ => rfl)
attribute [go_sem] dq_B g_B dec_B fl_B
def d_LIE (x : (List (Int))) : List D := [encF 1 d_I x]
theorem dq_LIE (x : (List (Int))) : d_LIE x = [encF 1 d_I x] := by rw [d_LIE]
def g_LIE : List D → (List (Int))
  | [a] => decF g_I a
  | _ => default
theorem gd_LIE (x : (List (Int))) : g_LIE (d_LIE x) = x := by simp only [g_LIE, d_LIE, dec_I]
theorem dec_LIE (l : List ((List (Int)))) : decF g_LIE (encF 1 d_LIE l) = l := decF_encF _ _ _ _ gd_LIE
theorem ed_LIE {l : List ((List (Int)))} {d : D} (h : CanD 1 d_I l d) : EqvD d (encF 1 d_LIE l) = True := eqvD_can (fun _ => rfl) h
theorem cde_LIE (l : List ((List (Int)))) : CanD 1 d_I l (encF 1 d_LIE l) = True := canD_enc (fun _ => rfl) l
attribute [go_sem] ed_LIE cde_LIE
attribute [go_sem] dq_LIE g_LIE dec_LIE
def d_S (x : ByteArray) : List D := [.str x]
theorem dq_S (x : ByteArray) : d_S x = [.str x] := by rw [d_S]
def g_S : List D → ByteArray
  | [.str a] => a
  | _ => default
theorem gd_S (x : ByteArray) : g_S (d_S x) = x := by rfl
theorem dec_S (l : List (ByteArray)) : decF g_S (encF 1 d_S l) = l := decF_encF _ _ _ _ gd_S
theorem fl_S (l : List (ByteArray)) : (encF 1 d_S l).flat = True := flat_enc (fun _ => rfl)
attribute [go_sem] dq_S g_S dec_S fl_S
def d_LSE (x : (List (ByteArray))) : List D := [encF 1 d_S x]
theorem dq_LSE (x : (List (ByteArray))) : d_LSE x = [encF 1 d_S x] := by rw [d_LSE]
def g_LSE : List D → (List (ByteArray))
  | [a] => decF g_S a
  | _ => default
theorem gd_LSE (x : (List (ByteArray))) : g_LSE (d_LSE x) = x := by simp only [g_LSE, d_LSE, dec_S]
theorem dec_LSE (l : List ((List (ByteArray)))) : decF g_LSE (encF 1 d_LSE l) = l := decF_encF _ _ _ _ gd_LSE
theorem ed_LSE {l : List ((List (ByteArray)))} {d : D} (h : CanD 1 d_S l d) : EqvD d (encF 1 d_LSE l) = True := eqvD_can (fun _ => rfl) h
theorem cde_LSE (l : List ((List (ByteArray)))) : CanD 1 d_S l (encF 1 d_LSE l) = True := canD_enc (fun _ => rfl) l
attribute [go_sem] ed_LSE cde_LSE
attribute [go_sem] dq_LSE g_LSE dec_LSE
def d_E (x : Bool) : List D := [.err x]
theorem dq_E (x : Bool) : d_E x = [.err x] := by rw [d_E]
def g_E : List D → Bool
  | [.err a] => a
  | _ => default
theorem gd_E (x : Bool) : g_E (d_E x) = x := by rfl
theorem dec_E (l : List (Bool)) : decF g_E (encF 1 d_E l) = l := decF_encF _ _ _ _ gd_E
theorem fl_E (l : List (Bool)) : (encF 1 d_E l).flat = True := flat_enc (fun _ => rfl)
attribute [go_sem] dq_E g_E dec_E fl_E
def d_Ku8 (x : Int) : List D := [.int .u8 x]
theorem dq_Ku8 (x : Int) : d_Ku8 x = [.int .u8 x] := by rw [d_Ku8]
def g_Ku8 : List D → Int
  | [.int _ a] => a
  | _ => default
theorem gd_Ku8 (x : Int) : g_Ku8 (d_Ku8 x) = x := by rfl
theorem dec_Ku8 (l : List (Int)) : decF g_Ku8 (encF 1 d_Ku8 l) = l := decF_encF _ _ _ _ gd_Ku8
theorem fl_Ku8 (l : List (Int)) : (encF 1 d_Ku8 l).flat = True := flat_enc (fun _ => rfl)
attribute [go_sem] dq_Ku8 g_Ku8 dec_Ku8 fl_Ku8
abbrev qA0 := Unit
def qw0 : List Arg := []
def qE0 : qA0 → List Arg := fun _ => qw0
def qd0 (a : List Arg) : qA0 := ()
def qp0 {β : Type} (f : β) : β := f 
def qt0 : List Arg := []
attribute [go_sem] qw0 qp0 qt0 qE0
abbrev qA1 := Int × Int × Int
def qw1 (a0 : Int) (a1 : Int) (a2 : Int) : List Arg := [.c (.int .i64 a0), .c (.int .i64 a1), .c (.int .i64 a2)]
def qE1 : qA1 → List Arg := fun ⟨a0, a1, a2⟩ => qw1 a0 a1 a2
def qd1 (a : List Arg) : qA1 := (dInt (aCell a 0 0), dInt (aCell a 1 0), dInt (aCell a 2 0))
def qp1 {β : Type} (f : Int → Int → Int → β) (c0 c1 c2 : D) : β := f (dInt c0) (dInt c1) (dInt c2)
def qt1 (c0 c1 c2 : D) : List Arg := [.c c0, .c c1, .c c2]
attribute [go_sem] qw1 qp1 qt1 qE1
abbrev qA4 := Int
def qw4 (a0 : Int) : List Arg := [.c (.int .i64 a0)]
def qE4 : qA4 → List Arg := qw4
def qd4 (a : List Arg) : qA4 := dInt (aCell a 0 0)
def qp4 {β : Type} (f : Int → β) (c0 : D) : β := f (dInt c0)
def qt4 (c0 : D) : List Arg := [.c c0]
attribute [go_sem] qw4 qp4 qt4 qE4
abbrev qA5 := (List (Int × Int))
def qw5 (a0 : List (Int × Int)) : List Arg := [.c (encF 2 d_II a0)]
def qE5 : qA5 → List Arg := qw5
def qd5 (a : List Arg) : qA5 := decF g_II (aCell a 0 0)
def qp5 {β : Type} (f : (List (Int × Int)) → β) (c0 : D) : β := f (decF g_II c0)
def qt5 (c0 : D) : List Arg := [.c c0]
attribute [go_sem] qw5 qp5 qt5 qE5
abbrev qA7 := Int × Int
def qw7 (a0 : Int) (a1 : Int) : List Arg := [.c (.int .i64 a0), .c (.int .i64 a1)]
def qE7 : qA7 → List Arg := fun ⟨a0, a1⟩ => qw7 a0 a1
def qd7 (a : List Arg) : qA7 := (dInt (aCell a 0 0), dInt (aCell a 1 0))
def qp7 {β : Type} (f : Int → Int → β) (c0 c1 : D) : β := f (dInt c0) (dInt c1)
def qt7 (c0 c1 : D) : List Arg := [.c c0, .c c1]
attribute [go_sem] qw7 qp7 qt7 qE7
abbrev qA11 := (List (Int × Int)) × (List (Int × Int))
def qw11 (a0 : List (Int × Int)) (a1 : List (Int × Int)) : List Arg := [.c (encF 2 d_II a0), .c (encF 2 d_II a1)]
def qE11 : qA11 → List Arg := fun ⟨a0, a1⟩ => qw11 a0 a1
def qd11 (a : List Arg) : qA11 := (decF g_II (aCell a 0 0), decF g_II (aCell a 1 0))
def qp11 {β : Type} (f : (List (Int × Int)) → (List (Int × Int)) → β) (c0 c1 : D) : β := f (decF g_II c0) (decF g_II c1)
def qt11 (c0 c1 : D) : List Arg := [.c c0, .c c1]
attribute [go_sem] qw11 qp11 qt11 qE11
abbrev qA12 := Int × Int × (List (Int × Int)) × (List ((List (Int × Int))))
def qw12 (a0 : Int) (a1 : Int) (a2 : List (Int × Int)) (a3 : List ((List (Int × Int)))) : List Arg := [.agg [.int .i64 a0, .int .i64 a1, encF 2 d_II a2, encF 1 d_LIIE a3]]
def qE12 : qA12 → List Arg := fun ⟨a0, a1, a2, a3⟩ => qw12 a0 a1 a2 a3
def qd12 (a : List Arg) : qA12 := (dInt (aCell a 0 0), dInt (aCell a 0 1), decF g_II (aCell a 0 2), decF g_LIIE (aCell a 0 3))
def qp12 {β : Type} (f : Int → Int → (List (Int × Int)) → (List ((List (Int × Int)))) → β) (c0 c1 c2 c3 : D) : β := f (dInt c0) (dInt c1) (decF g_II c2) (decF g_LIIE c3)
def qt12 (c0 c1 c2 c3 : D) : List Arg := [.agg [c0, c1, c2, c3]]
attribute [go_sem] qw12 qp12 qt12 qE12
abbrev qA14 := Int × Int × Int × (List (Int × Int)) × (List ((List (Int × Int)))) × (List (Int × Int)) × (List ((List (Int × Int))))
def qw14 (a0 : Int) (a1 : Int) (a2 : Int) (a3 : List (Int × Int)) (a4 : List ((List (Int × Int)))) (a5 : List (Int × Int)) (a6 : List ((List (Int × Int)))) : List Arg := [.c (.int .i64 a0), .ptr [.int .i64 a1, .int .i64 a2, encF 2 d_II a3, encF 1 d_LIIE a4, encF 2 d_II a5, encF 1 d_LIIE a6]]
def qE14 : qA14 → List Arg := fun ⟨a0, a1, a2, a3, a4, a5, a6⟩ => qw14 a0 a1 a2 a3 a4 a5 a6
def qd14 (a : List Arg) : qA14 := (dInt (aCell a 0 0), dInt (aCell a 1 0), dInt (aCell a 1 1), decF g_II (aCell a 1 2), decF g_LIIE (aCell a 1 3), decF g_II (aCell a 1 4), decF g_LIIE (aCell a 1 5))
def qp14 {β : Type} (f : Int → Int → Int → (List (Int × Int)) → (List ((List (Int × Int)))) → (List (Int × Int)) → (List ((List (Int × Int)))) → β) (c0 c1 c2 c3 c4 c5 c6 : D) : β := f (dInt c0) (dInt c1) (dInt c2) (decF g_II c3) (decF g_LIIE c4) (decF g_II c5) (decF g_LIIE c6)
def qt14 (c0 c1 c2 c3 c4 c5 c6 : D) : List Arg := [.c c0, .ptr [c1, c2, c3, c4, c5, c6]]
attribute [go_sem] qw14 qp14 qt14 qE14
abbrev qA20 := Int × Int × (List (Int × Int)) × (List ((List (Int × Int)))) × (List (Int × Int)) × (List ((List (Int × Int)))) × Int × Int
def qw20 (a0 : Int) (a1 : Int) (a2 : List (Int × Int)) (a3 : List ((List (Int × Int)))) (a4 : List (Int × Int)) (a5 : List ((List (Int × Int)))) (a6 : Int) (a7 : Int) : List Arg := [.agg [.int .i64 a0, .int .i64 a1, encF 2 d_II a2, encF 1 d_LIIE a3, encF 2 d_II a4, encF 1 d_LIIE a5], .c (.int .i64 a6), .c (.int .i64 a7)]
def qE20 : qA20 → List Arg := fun ⟨a0, a1, a2, a3, a4, a5, a6, a7⟩ => qw20 a0 a1 a2 a3 a4 a5 a6 a7
def qd20 (a : List Arg) : qA20 := (dInt (aCell a 0 0), dInt (aCell a 0 1), decF g_II (aCell a 0 2), decF g_LIIE (aCell a 0 3), decF g_II (aCell a 0 4), decF g_LIIE (aCell a 0 5), dInt (aCell a 1 0), dInt (aCell a 2 0))
def qp20 {β : Type} (f : Int → Int → (List (Int × Int)) → (List ((List (Int × Int)))) → (List (Int × Int)) → (List ((List (Int × Int)))) → Int → Int → β) (c0 c1 c2 c3 c4 c5 c6 c7 : D) : β := f (dInt c0) (dInt c1) (decF g_II c2) (decF g_LIIE c3) (decF g_II c4) (decF g_LIIE c5) (dInt c6) (dInt c7)
def qt20 (c0 c1 c2 c3 c4 c5 c6 c7 : D) : List Arg := [.agg [c0, c1, c2, c3, c4, c5], .c c6, .c c7]
attribute [go_sem] qw20 qp20 qt20 qE20
abbrev qA44 := ByteArray
def qw44 (a0 : ByteArray) : List Arg := [.c (.str a0)]
def qE44 : qA44 → List Arg := qw44
def qd44 (a : List Arg) : qA44 := dStr (aCell a 0 0)
def qp44 {β : Type} (f : ByteArray → β) (c0 : D) : β := f (dStr c0)
def qt44 (c0 : D) : List Arg := [.c c0]
attribute [go_sem] qw44 qp44 qt44 qE44
def qu0 (v : Int × Int × (List (Int × Int)) × (List ((List (Int × Int))))) : List RV := [.agg [.d (.int .i64 v.1), .d (.int .i64 v.2.1), .own (encF 2 d_II v.2.2.1), .own (encF 1 d_LIIE v.2.2.2)]]
attribute [go_sem] qu0
def qu1 (v : Bool) : List RV := [.c (.d (.bool v))]
attribute [go_sem] qu1
def qu2 (v : Int) : List RV := [.c (.d (.int .i64 v))]
attribute [go_sem] qu2
def qu3 (v : Int × Int) : List RV := [.c (.d (.int .i64 v.1)), .c (.d (.int .i64 v.2))]
attribute [go_sem] qu3
def qu5 (v : Int × Bool) : List RV := [.c (.d (.int .i64 v.1)), .c (.d (.bool v.2))]
attribute [go_sem] qu5
def qu6 (v : Int × Int) : List RV := [.agg [.d (.int .i64 v.1), .d (.int .i64 v.2)]]
attribute [go_sem] qu6
def qu7 (v : Int × Int × (List (Int × Int)) × (List ((List (Int × Int)))) × (List (Int × Int)) × (List ((List (Int × Int)))) × Int) : List RV := [.agg [.d (.int .i64 v.1), .d (.int .i64 v.2.1), .d (encF 2 d_II v.2.2.1), .d (encF 1 d_LIIE v.2.2.2.1), .own (encF 2 d_II v.2.2.2.2.1), .own (encF 1 d_LIIE v.2.2.2.2.2.1)], .c (.d (.int .i64 v.2.2.2.2.2.2))]
attribute [go_sem] qu7
def qu15 (v : ByteArray) : List RV := [.c (.d (.str v))]
attribute [go_sem] qu15
def qu18 (v : Int × Int × Bool) : List RV := [.agg [.d (.int .i64 v.1), .d (.int .i64 v.2.1)], .c (.d (.bool v.2.2))]
attribute [go_sem] qu18
def qu20 (v : (List (Int × Int)) × Bool) : List RV := [.c (.own (encF 2 d_II v.1)), .c (.d (.bool v.2))]
attribute [go_sem] qu20
def qu21 (v : Int × Int × (List (Int × Int)) × (List ((List (Int × Int)))) × Int) : List RV := [.agg [.d (.int .i64 v.1), .d (.int .i64 v.2.1), .own (encF 2 d_II v.2.2.1), .own (encF 1 d_LIIE v.2.2.2.1)], .c (.d (.int .i64 v.2.2.2.2))]
attribute [go_sem] qu21
end Go.Proofs.YtefijdjbhjdhdaaGreatDoor

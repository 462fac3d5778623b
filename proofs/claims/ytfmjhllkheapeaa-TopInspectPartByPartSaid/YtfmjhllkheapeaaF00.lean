/- Lists in cells, written by wip/dec. -/
import Derived.Test.YtfmjhllkheapeaaTy
import Derived.Test.YtfmjhllkheapeaaAbsTac
import Derived.WalkKit
set_option linter.unusedVariables false
set_option linter.unusedSimpArgs false
set_option maxHeartbeats 4000000
set_option maxRecDepth 20000
namespace Go.Proofs.Ytfmjhllkheapeaa
open Go.Abs
attribute [go_sem] eqvO_can eqv_can can_cat can_cat0 can_ofList canW_ofList eqvLL can_setF can_set can_sub can_rep oneOne
theorem lapp_nil {α : Type} (r : List α) : List.append [] r = r := rfl
theorem lapp_cons {α : Type} (a : α) (l r : List α) : List.append (a :: l) r = a :: List.append l r := rfl
attribute [go_sem] lapp_nil lapp_cons
theorem can_cat1 {α : Type} [Inhabited α] {s : Nat} {f : α → List D} {a : α} {r : List α} {c : List D} {y : D} (h : eqvDs c (f a)) (hy : CanW f r y) : Go.Abs.Can s f (a :: r) (D.cat (D.ofList s [c]) y) = True :=
  can_cat (of_eq_true (can_ofList (l := [a]) (show eqvLL [c] [f a] from ⟨h, trivial⟩))) hy
attribute [go_sem] can_cat1
def d_IIII (x : Int × Int × Int × Int) : List D := [.int .i64 x.1, .int .i64 x.2.1, .int .i64 x.2.2.1, .int .i64 x.2.2.2]
theorem dq_IIII (x : Int × Int × Int × Int) : d_IIII x = [.int .i64 x.1, .int .i64 x.2.1, .int .i64 x.2.2.1, .int .i64 x.2.2.2] := by rw [d_IIII]
def g_IIII : List D → Int × Int × Int × Int
  | [.int _ a, .int _ b, .int _ c, .int _ d] => (a, b, c, d)
  | _ => default
theorem gd_IIII (x : Int × Int × Int × Int) : g_IIII (d_IIII x) = x := by rfl
theorem dec_IIII (l : List (Int × Int × Int × Int)) : decF g_IIII (encF 4 d_IIII l) = l := decF_encF _ _ _ _ gd_IIII
theorem fl_IIII (l : List (Int × Int × Int × Int)) : (encF 4 d_IIII l).flat = True := flat_enc (fun _ => rfl)
attribute [go_sem] dq_IIII g_IIII dec_IIII fl_IIII
def d_LIIIIE (x : (List (Int × Int × Int × Int))) : List D := [encF 4 d_IIII x]
theorem dq_LIIIIE (x : (List (Int × Int × Int × Int))) : d_LIIIIE x = [encF 4 d_IIII x] := by rw [d_LIIIIE]
def g_LIIIIE : List D → (List (Int × Int × Int × Int))
  | [a] => decF g_IIII a
  | _ => default
theorem gd_LIIIIE (x : (List (Int × Int × Int × Int))) : g_LIIIIE (d_LIIIIE x) = x := by simp only [g_LIIIIE, d_LIIIIE, dec_IIII]
theorem dec_LIIIIE (l : List ((List (Int × Int × Int × Int)))) : decF g_LIIIIE (encF 1 d_LIIIIE l) = l := decF_encF _ _ _ _ gd_LIIIIE
attribute [go_sem] dq_LIIIIE g_LIIIIE dec_LIIIIE
def d_I (x : Int) : List D := [.int .i64 x]
theorem dq_I (x : Int) : d_I x = [.int .i64 x] := by rw [d_I]
def g_I : List D → Int
  | [.int _ a] => a
  | _ => default
theorem gd_I (x : Int) : g_I (d_I x) = x := by rfl
theorem dec_I (l : List (Int)) : decF g_I (encF 1 d_I l) = l := decF_encF _ _ _ _ gd_I
theorem fl_I (l : List (Int)) : (encF 1 d_I l).flat = True := flat_enc (fun _ => rfl)
attribute [go_sem] dq_I g_I dec_I fl_I
def d_B (x : Bool) : List D := [.bool x]
theorem dq_B (x : Bool) : d_B x = [.bool x] := by rw [d_B]
def g_B : List D → Bool
  | [.bool a] => a
  | _ => default
theorem gd_B (x : Bool) : g_B (d_B x) = x := by rfl
theorem dec_B (l : List (Bool)) : decF g_B (encF 1 d_B l) = l := decF_encF _ _ _ _ gd_B
theorem fl_B (l : List (Bool)) : (encF 1 d_B l).flat = True := flat_enc (fun _ => rfl)
attribute [go_sem] dq_B g_B dec_B fl_B
def d_LIE (x : (List (Int))) : List D := [encF 1 d_I x]
theorem dq_LIE (x : (List (Int))) : d_LIE x = [encF 1 d_I x] := by rw [d_LIE]
def g_LIE : List D → (List (Int))
  | [a] => decF g_I a
  | _ => default
theorem gd_LIE (x : (List (Int))) : g_LIE (d_LIE x) = x := by simp only [g_LIE, d_LIE, dec_I]
theorem dec_LIE (l : List ((List (Int)))) : decF g_LIE (encF 1 d_LIE l) = l := decF_encF _ _ _ _ gd_LIE
attribute [go_sem] dq_LIE g_LIE dec_LIE
def d_II (x : Int × Int) : List D := [.int .i64 x.1, .int .i64 x.2]
theorem dq_II (x : Int × Int) : d_II x = [.int .i64 x.1, .int .i64 x.2] := by rw [d_II]
def g_II : List D → Int × Int
  | [.int _ a, .int _ b] => (a, b)
  | _ => default
theorem gd_II (x : Int × Int) : g_II (d_II x) = x := by rfl
theorem dec_II (l : List (Int × Int)) : decF g_II (encF 2 d_II l) = l := decF_encF _ _ _ _ gd_II
theorem fl_II (l : List (Int × Int)) : (encF 2 d_II l).flat = True := flat_enc (fun _ => rfl)
attribute [go_sem] dq_II g_II dec_II fl_II
def d_LIIE (x : (List (Int × Int))) : List D := [encF 2 d_II x]
theorem dq_LIIE (x : (List (Int × Int))) : d_LIIE x = [encF 2 d_II x] := by rw [d_LIIE]
def g_LIIE : List D → (List (Int × Int))
  | [a] => decF g_II a
  | _ => default
theorem gd_LIIE (x : (List (Int × Int))) : g_LIIE (d_LIIE x) = x := by simp only [g_LIIE, d_LIIE, dec_II]
theorem dec_LIIE (l : List ((List (Int × Int)))) : decF g_LIIE (encF 1 d_LIIE l) = l := decF_encF _ _ _ _ gd_LIIE
attribute [go_sem] dq_LIIE g_LIIE dec_LIIE
abbrev qA0 := Unit
def qw0 : List Arg := []
def qE0 : qA0 → List Arg := fun _ => qw0
def qd0 (a : List Arg) : qA0 := ()
def qp0 {β : Type} (f : β) : β := f 
def qt0 : List Arg := []
attribute [go_sem] qw0 qp0 qt0 qE0
abbrev qA2 := (List (Int))
def qw2 (a0 : List (Int)) : List Arg := [.c (encF 1 d_I a0)]
def qE2 : qA2 → List Arg := qw2
def qd2 (a : List Arg) : qA2 := decF g_I (aCell a 0 0)
def qp2 {β : Type} (f : (List (Int)) → β) (c0 : D) : β := f (decF g_I c0)
def qt2 (c0 : D) : List Arg := [.c c0]
attribute [go_sem] qw2 qp2 qt2 qE2
abbrev qA3 := Int × Int × Int
def qw3 (a0 : Int) (a1 : Int) (a2 : Int) : List Arg := [.c (.int .i64 a0), .c (.int .i64 a1), .c (.int .i64 a2)]
def qE3 : qA3 → List Arg := fun ⟨a0, a1, a2⟩ => qw3 a0 a1 a2
def qd3 (a : List Arg) : qA3 := (dInt (aCell a 0 0), dInt (aCell a 1 0), dInt (aCell a 2 0))
def qp3 {β : Type} (f : Int → Int → Int → β) (c0 c1 c2 : D) : β := f (dInt c0) (dInt c1) (dInt c2)
def qt3 (c0 c1 c2 : D) : List Arg := [.c c0, .c c1, .c c2]
attribute [go_sem] qw3 qp3 qt3 qE3
abbrev qA4 := Int
def qw4 (a0 : Int) : List Arg := [.c (.int .i64 a0)]
def qE4 : qA4 → List Arg := qw4
def qd4 (a : List Arg) : qA4 := dInt (aCell a 0 0)
def qp4 {β : Type} (f : Int → β) (c0 : D) : β := f (dInt c0)
def qt4 (c0 : D) : List Arg := [.c c0]
attribute [go_sem] qw4 qp4 qt4 qE4
abbrev qA10 := Int × Int
def qw10 (a0 : Int) (a1 : Int) : List Arg := [.c (.int .i64 a0), .c (.int .i64 a1)]
def qE10 : qA10 → List Arg := fun ⟨a0, a1⟩ => qw10 a0 a1
def qd10 (a : List Arg) : qA10 := (dInt (aCell a 0 0), dInt (aCell a 1 0))
def qp10 {β : Type} (f : Int → Int → β) (c0 c1 : D) : β := f (dInt c0) (dInt c1)
def qt10 (c0 c1 : D) : List Arg := [.c c0, .c c1]
attribute [go_sem] qw10 qp10 qt10 qE10
abbrev qA16 := Int × Int
def qw16 (a0 : Int) (a1 : Int) : List Arg := [.agg [.int .i64 a0, .int .i64 a1]]
def qE16 : qA16 → List Arg := fun ⟨a0, a1⟩ => qw16 a0 a1
def qd16 (a : List Arg) : qA16 := (dInt (aCell a 0 0), dInt (aCell a 0 1))
def qp16 {β : Type} (f : Int → Int → β) (c0 c1 : D) : β := f (dInt c0) (dInt c1)
def qt16 (c0 c1 : D) : List Arg := [.agg [c0, c1]]
attribute [go_sem] qw16 qp16 qt16 qE16
abbrev qA19 := Int × (List (Int)) × Int × (List (Int))
def qw19 (a0 : Int) (a1 : List (Int)) (a2 : Int) (a3 : List (Int)) : List Arg := [.agg [.int .i64 a0, encF 1 d_I a1], .agg [.int .i64 a2, encF 1 d_I a3]]
def qE19 : qA19 → List Arg := fun ⟨a0, a1, a2, a3⟩ => qw19 a0 a1 a2 a3
def qd19 (a : List Arg) : qA19 := (dInt (aCell a 0 0), decF g_I (aCell a 0 1), dInt (aCell a 1 0), decF g_I (aCell a 1 1))
def qp19 {β : Type} (f : Int → (List (Int)) → Int → (List (Int)) → β) (c0 c1 c2 c3 : D) : β := f (dInt c0) (decF g_I c1) (dInt c2) (decF g_I c3)
def qt19 (c0 c1 c2 c3 : D) : List Arg := [.agg [c0, c1], .agg [c2, c3]]
attribute [go_sem] qw19 qp19 qt19 qE19
def qu1 (v : Int) : List RV := [.c (.d (.int .i64 v))]
attribute [go_sem] qu1
def qu2 (v : Bool) : List RV := [.c (.d (.bool v))]
attribute [go_sem] qu2
def qu3 (v : Int × Int) : List RV := [.c (.d (.int .i64 v.1)), .c (.d (.int .i64 v.2))]
attribute [go_sem] qu3
def qu5 (v : Int × Int) : List RV := [.agg [.d (.int .i64 v.1), .d (.int .i64 v.2)]]
attribute [go_sem] qu5
def qu10 (v : Int × (List (Int))) : List RV := [.agg [.d (.int .i64 v.1), .d (encF 1 d_I v.2)]]
attribute [go_sem] qu10
def qu11 (v : Int × (List (Int)) × Int × (List (Int))) : List RV := [.agg [.d (.int .i64 v.1), .d (encF 1 d_I v.2.1), .d (.int .i64 v.2.2.1), .d (encF 1 d_I v.2.2.2)]]
attribute [go_sem] qu11
end Go.Proofs.Ytfmjhllkheapeaa

/- Contracts of functions, written by wip/dec. -/
import Derived.Test.YtdlogfepbkojkaaGreatDoorF00
import Derived.Test.YtdlogfepbkojkaaGreatDoorF01
import Derived.Test.YtdlogfepbkojkaaGreatDoorF02
set_option linter.unusedVariables false
set_option linter.unusedSimpArgs false
set_option maxHeartbeats 4000000
set_option maxRecDepth 20000
namespace Go.Proofs.YtdlogfepbkojkaaGreatDoor
open Go.Abs
abbrev qA18 := Int × Int × Int × Int
def qw18 (a0 : Int) (a1 : Int) (a2 : Int) (a3 : Int) : List Arg := [.agg [.int .i64 a0, .int .i64 a1, .int .i64 a2], .ptr [.int .i64 a3]]
def qE18 : qA18 → List Arg := fun ⟨a0, a1, a2, a3⟩ => qw18 a0 a1 a2 a3
def qd18 (a : List Arg) : qA18 := (dInt (aCell a 0 0), dInt (aCell a 0 1), dInt (aCell a 0 2), dInt (aCell a 1 0))
def qp18 {β : Type} (f : Int → Int → Int → Int → β) (c0 c1 c2 c3 : D) : β := f (dInt c0) (dInt c1) (dInt c2) (dInt c3)
def qt18 (c0 c1 c2 c3 : D) : List Arg := [.agg [c0, c1, c2], .ptr [c3]]
attribute [go_sem] qw18 qp18 qt18 qE18
abbrev qA19 := (List (Int × Int × Int)) × Int
def qw19 (a0 : List (Int × Int × Int)) (a1 : Int) : List Arg := [.c (encF 3 d_III a0), .clo 125 [[.int .i64 a1]]]
def qE19 : qA19 → List Arg := fun ⟨a0, a1⟩ => qw19 a0 a1
def qd19 (a : List Arg) : qA19 := (decF g_III (aCell a 0 0), dInt (aCell a 1 0))
def qp19 {β : Type} (f : (List (Int × Int × Int)) → Int → β) (c0 c1 : D) : β := f (decF g_III c0) (dInt c1)
def qt19 (c0 c1 : D) : List Arg := [.c c0, .clo 125 [[c1]]]
attribute [go_sem] qw19 qp19 qt19 qE19
abbrev qA20 := Int × Int × Int
def qw20 (a0 : Int) (a1 : Int) (a2 : Int) : List Arg := [.agg [.int .i64 a0, .int .i64 a1], .ptr [.int .i64 a2]]
def qE20 : qA20 → List Arg := fun ⟨a0, a1, a2⟩ => qw20 a0 a1 a2
def qd20 (a : List Arg) : qA20 := (dInt (aCell a 0 0), dInt (aCell a 0 1), dInt (aCell a 1 0))
def qp20 {β : Type} (f : Int → Int → Int → β) (c0 c1 c2 : D) : β := f (dInt c0) (dInt c1) (dInt c2)
def qt20 (c0 c1 c2 : D) : List Arg := [.agg [c0, c1], .ptr [c2]]
attribute [go_sem] qw20 qp20 qt20 qE20
abbrev qA21 := (List (Int × Int × Int × Int)) × (List (Int × Int × Int × Int × Int)) × (List (Int × Int × Int)) × (List (Int × Int)) × Int × Int × Int × Int × Int × Int × Int × Int × Int × Int × Int × Int × Int × Int × Int
def qw21 (a0 : List (Int × Int × Int × Int)) (a1 : List (Int × Int × Int × Int × Int)) (a2 : List (Int × Int × Int)) (a3 : List (Int × Int)) (a4 : Int) (a5 : Int) (a6 : Int) (a7 : Int) (a8 : Int) (a9 : Int) (a10 : Int) (a11 : Int) (a12 : Int) (a13 : Int) (a14 : Int) (a15 : Int) (a16 : Int) (a17 : Int) (a18 : Int) : List Arg := [.agg [encF 4 d_IIII a0, encF 5 d_IIIII a1, encF 3 d_III a2, encF 2 d_II a3, .int .i64 a4, .int .i64 a5, .int .i64 a6, .int .i64 a7], .agg [.int .i64 a8, .int .i64 a9, .int .i64 a10, .int .i64 a11, .int .i64 a12, .int .i64 a13, .int .i64 a14], .c (.int .i64 a15), .agg [.int .i64 a16, .int .i64 a17, .int .i64 a18]]
def qE21 : qA21 → List Arg := fun ⟨a0, a1, a2, a3, a4, a5, a6, a7, a8, a9, a10, a11, a12, a13, a14, a15, a16, a17, a18⟩ => qw21 a0 a1 a2 a3 a4 a5 a6 a7 a8 a9 a10 a11 a12 a13 a14 a15 a16 a17 a18
def qd21 (a : List Arg) : qA21 := (decF g_IIII (aCell a 0 0), decF g_IIIII (aCell a 0 1), decF g_III (aCell a 0 2), decF g_II (aCell a 0 3), dInt (aCell a 0 4), dInt (aCell a 0 5), dInt (aCell a 0 6), dInt (aCell a 0 7), dInt (aCell a 1 0), dInt (aCell a 1 1), dInt (aCell a 1 2), dInt (aCell a 1 3), dInt (aCell a 1 4), dInt (aCell a 1 5), dInt (aCell a 1 6), dInt (aCell a 2 0), dInt (aCell a 3 0), dInt (aCell a 3 1), dInt (aCell a 3 2))
def qp21 {β : Type} (f : (List (Int × Int × Int × Int)) → (List (Int × Int × Int × Int × Int)) → (List (Int × Int × Int)) → (List (Int × Int)) → Int → Int → Int → Int → Int → Int → Int → Int → Int → Int → Int → Int → Int → Int → Int → β) (c0 c1 c2 c3 c4 c5 c6 c7 c8 c9 c10 c11 c12 c13 c14 c15 c16 c17 c18 : D) : β := f (decF g_IIII c0) (decF g_IIIII c1) (decF g_III c2) (decF g_II c3) (dInt c4) (dInt c5) (dInt c6) (dInt c7) (dInt c8) (dInt c9) (dInt c10) (dInt c11) (dInt c12) (dInt c13) (dInt c14) (dInt c15) (dInt c16) (dInt c17) (dInt c18)
def qt21 (c0 c1 c2 c3 c4 c5 c6 c7 c8 c9 c10 c11 c12 c13 c14 c15 c16 c17 c18 : D) : List Arg := [.agg [c0, c1, c2, c3, c4, c5, c6, c7], .agg [c8, c9, c10, c11, c12, c13, c14], .c c15, .agg [c16, c17, c18]]
attribute [go_sem] qw21 qp21 qt21 qE21
abbrev qA22 := (List (Int × Int × Int × Int)) × (List (Int × Int × Int × Int × Int)) × (List (Int × Int × Int)) × (List (Int × Int)) × Int × Int × Int × Int × Int × Int × Int × Int × Int × Int × Int × (List (Int)) × Int × Int × Int
def qw22 (a0 : List (Int × Int × Int × Int)) (a1 : List (Int × Int × Int × Int × Int)) (a2 : List (Int × Int × Int)) (a3 : List (Int × Int)) (a4 : Int) (a5 : Int) (a6 : Int) (a7 : Int) (a8 : Int) (a9 : Int) (a10 : Int) (a11 : Int) (a12 : Int) (a13 : Int) (a14 : Int) (a15 : List (Int)) (a16 : Int) (a17 : Int) (a18 : Int) : List Arg := [.agg [encF 4 d_IIII a0, encF 5 d_IIIII a1, encF 3 d_III a2, encF 2 d_II a3, .int .i64 a4, .int .i64 a5, .int .i64 a6, .int .i64 a7], .agg [.int .i64 a8, .int .i64 a9, .int .i64 a10, .int .i64 a11, .int .i64 a12, .int .i64 a13, .int .i64 a14], .c (encF 1 d_I a15), .agg [.int .i64 a16, .int .i64 a17, .int .i64 a18]]
def qE22 : qA22 → List Arg := fun ⟨a0, a1, a2, a3, a4, a5, a6, a7, a8, a9, a10, a11, a12, a13, a14, a15, a16, a17, a18⟩ => qw22 a0 a1 a2 a3 a4 a5 a6 a7 a8 a9 a10 a11 a12 a13 a14 a15 a16 a17 a18
def qd22 (a : List Arg) : qA22 := (decF g_IIII (aCell a 0 0), decF g_IIIII (aCell a 0 1), decF g_III (aCell a 0 2), decF g_II (aCell a 0 3), dInt (aCell a 0 4), dInt (aCell a 0 5), dInt (aCell a 0 6), dInt (aCell a 0 7), dInt (aCell a 1 0), dInt (aCell a 1 1), dInt (aCell a 1 2), dInt (aCell a 1 3), dInt (aCell a 1 4), dInt (aCell a 1 5), dInt (aCell a 1 6), decF g_I (aCell a 2 0), dInt (aCell a 3 0), dInt (aCell a 3 1), dInt (aCell a 3 2))
def qp22 {β : Type} (f : (List (Int × Int × Int × Int)) → (List (Int × Int × Int × Int × Int)) → (List (Int × Int × Int)) → (List (Int × Int)) → Int → Int → Int → Int → Int → Int → Int → Int → Int → Int → Int → (List (Int)) → Int → Int → Int → β) (c0 c1 c2 c3 c4 c5 c6 c7 c8 c9 c10 c11 c12 c13 c14 c15 c16 c17 c18 : D) : β := f (decF g_IIII c0) (decF g_IIIII c1) (decF g_III c2) (decF g_II c3) (dInt c4) (dInt c5) (dInt c6) (dInt c7) (dInt c8) (dInt c9) (dInt c10) (dInt c11) (dInt c12) (dInt c13) (dInt c14) (decF g_I c15) (dInt c16) (dInt c17) (dInt c18)
def qt22 (c0 c1 c2 c3 c4 c5 c6 c7 c8 c9 c10 c11 c12 c13 c14 c15 c16 c17 c18 : D) : List Arg := [.agg [c0, c1, c2, c3, c4, c5, c6, c7], .agg [c8, c9, c10, c11, c12, c13, c14], .c c15, .agg [c16, c17, c18]]
attribute [go_sem] qw22 qp22 qt22 qE22
abbrev qA23 := (List (Int × Int × Int × Int)) × (List (Int × Int × Int × Int × Int)) × (List (Int × Int × Int)) × (List (Int × Int)) × Int × Int × Int × Int × Int × Int × Int × Int × Int × Int × Int × (List (Int)) × Int × Int × Int
def qw23 (a0 : List (Int × Int × Int × Int)) (a1 : List (Int × Int × Int × Int × Int)) (a2 : List (Int × Int × Int)) (a3 : List (Int × Int)) (a4 : Int) (a5 : Int) (a6 : Int) (a7 : Int) (a8 : Int) (a9 : Int) (a10 : Int) (a11 : Int) (a12 : Int) (a13 : Int) (a14 : Int) (a15 : List (Int)) (a16 : Int) (a17 : Int) (a18 : Int) : List Arg := [.agg [encF 4 d_IIII a0, encF 5 d_IIIII a1, encF 3 d_III a2, encF 2 d_II a3, .int .i64 a4, .int .i64 a5, .int .i64 a6, .int .i64 a7], .agg [.int .i64 a8, .int .i64 a9, .int .i64 a10, .int .i64 a11, .int .i64 a12, .int .i64 a13, .int .i64 a14], .agg [encF 1 d_I a15, .int .i64 a16, .int .i64 a17, .int .i64 a18]]
def qE23 : qA23 → List Arg := fun ⟨a0, a1, a2, a3, a4, a5, a6, a7, a8, a9, a10, a11, a12, a13, a14, a15, a16, a17, a18⟩ => qw23 a0 a1 a2 a3 a4 a5 a6 a7 a8 a9 a10 a11 a12 a13 a14 a15 a16 a17 a18
def qd23 (a : List Arg) : qA23 := (decF g_IIII (aCell a 0 0), decF g_IIIII (aCell a 0 1), decF g_III (aCell a 0 2), decF g_II (aCell a 0 3), dInt (aCell a 0 4), dInt (aCell a 0 5), dInt (aCell a 0 6), dInt (aCell a 0 7), dInt (aCell a 1 0), dInt (aCell a 1 1), dInt (aCell a 1 2), dInt (aCell a 1 3), dInt (aCell a 1 4), dInt (aCell a 1 5), dInt (aCell a 1 6), decF g_I (aCell a 2 0), dInt (aCell a 2 1), dInt (aCell a 2 2), dInt (aCell a 2 3))
def qp23 {β : Type} (f : (List (Int × Int × Int × Int)) → (List (Int × Int × Int × Int × Int)) → (List (Int × Int × Int)) → (List (Int × Int)) → Int → Int → Int → Int → Int → Int → Int → Int → Int → Int → Int → (List (Int)) → Int → Int → Int → β) (c0 c1 c2 c3 c4 c5 c6 c7 c8 c9 c10 c11 c12 c13 c14 c15 c16 c17 c18 : D) : β := f (decF g_IIII c0) (decF g_IIIII c1) (decF g_III c2) (decF g_II c3) (dInt c4) (dInt c5) (dInt c6) (dInt c7) (dInt c8) (dInt c9) (dInt c10) (dInt c11) (dInt c12) (dInt c13) (dInt c14) (decF g_I c15) (dInt c16) (dInt c17) (dInt c18)
def qt23 (c0 c1 c2 c3 c4 c5 c6 c7 c8 c9 c10 c11 c12 c13 c14 c15 c16 c17 c18 : D) : List Arg := [.agg [c0, c1, c2, c3, c4, c5, c6, c7], .agg [c8, c9, c10, c11, c12, c13, c14], .agg [c15, c16, c17, c18]]
attribute [go_sem] qw23 qp23 qt23 qE23
abbrev qA24 := (List (Int × Int × Int × Int)) × (List (Int × Int × Int × Int × Int)) × (List (Int × Int × Int)) × (List (Int × Int)) × Int × Int × Int × Int × Int × Int × Int × Int × Int × Int × Int
def qw24 (a0 : List (Int × Int × Int × Int)) (a1 : List (Int × Int × Int × Int × Int)) (a2 : List (Int × Int × Int)) (a3 : List (Int × Int)) (a4 : Int) (a5 : Int) (a6 : Int) (a7 : Int) (a8 : Int) (a9 : Int) (a10 : Int) (a11 : Int) (a12 : Int) (a13 : Int) (a14 : Int) : List Arg := [.agg [encF 4 d_IIII a0, encF 5 d_IIIII a1, encF 3 d_III a2, encF 2 d_II a3, .int .i64 a4, .int .i64 a5, .int .i64 a6, .int .i64 a7], .agg [.int .i64 a8, .int .i64 a9, .int .i64 a10, .int .i64 a11, .int .i64 a12, .int .i64 a13, .int .i64 a14]]
def qE24 : qA24 → List Arg := fun ⟨a0, a1, a2, a3, a4, a5, a6, a7, a8, a9, a10, a11, a12, a13, a14⟩ => qw24 a0 a1 a2 a3 a4 a5 a6 a7 a8 a9 a10 a11 a12 a13 a14
def qd24 (a : List Arg) : qA24 := (decF g_IIII (aCell a 0 0), decF g_IIIII (aCell a 0 1), decF g_III (aCell a 0 2), decF g_II (aCell a 0 3), dInt (aCell a 0 4), dInt (aCell a 0 5), dInt (aCell a 0 6), dInt (aCell a 0 7), dInt (aCell a 1 0), dInt (aCell a 1 1), dInt (aCell a 1 2), dInt (aCell a 1 3), dInt (aCell a 1 4), dInt (aCell a 1 5), dInt (aCell a 1 6))
def qp24 {β : Type} (f : (List (Int × Int × Int × Int)) → (List (Int × Int × Int × Int × Int)) → (List (Int × Int × Int)) → (List (Int × Int)) → Int → Int → Int → Int → Int → Int → Int → Int → Int → Int → Int → β) (c0 c1 c2 c3 c4 c5 c6 c7 c8 c9 c10 c11 c12 c13 c14 : D) : β := f (decF g_IIII c0) (decF g_IIIII c1) (decF g_III c2) (decF g_II c3) (dInt c4) (dInt c5) (dInt c6) (dInt c7) (dInt c8) (dInt c9) (dInt c10) (dInt c11) (dInt c12) (dInt c13) (dInt c14)
def qt24 (c0 c1 c2 c3 c4 c5 c6 c7 c8 c9 c10 c11 c12 c13 c14 : D) : List Arg := [.agg [c0, c1, c2, c3, c4, c5, c6, c7], .agg [c8, c9, c10, c11, c12, c13, c14]]
attribute [go_sem] qw24 qp24 qt24 qE24
abbrev qA25 := Int × Int × Int × Int × Int × Int × Int × Int × Int × Int × Int × Int × Int × Int
def qw25 (a0 : Int) (a1 : Int) (a2 : Int) (a3 : Int) (a4 : Int) (a5 : Int) (a6 : Int) (a7 : Int) (a8 : Int) (a9 : Int) (a10 : Int) (a11 : Int) (a12 : Int) (a13 : Int) : List Arg := [.agg [.int .i64 a0, .int .i64 a1, .int .i64 a2, .int .i64 a3, .int .i64 a4, .int .i64 a5, .int .i64 a6, .int .i64 a7, .int .i64 a8, .int .i64 a9, .int .i64 a10, .int .i64 a11, .int .i64 a12, .int .i64 a13]]
def qE25 : qA25 → List Arg := fun ⟨a0, a1, a2, a3, a4, a5, a6, a7, a8, a9, a10, a11, a12, a13⟩ => qw25 a0 a1 a2 a3 a4 a5 a6 a7 a8 a9 a10 a11 a12 a13
def qd25 (a : List Arg) : qA25 := (dInt (aCell a 0 0), dInt (aCell a 0 1), dInt (aCell a 0 2), dInt (aCell a 0 3), dInt (aCell a 0 4), dInt (aCell a 0 5), dInt (aCell a 0 6), dInt (aCell a 0 7), dInt (aCell a 0 8), dInt (aCell a 0 9), dInt (aCell a 0 10), dInt (aCell a 0 11), dInt (aCell a 0 12), dInt (aCell a 0 13))
def qp25 {β : Type} (f : Int → Int → Int → Int → Int → Int → Int → Int → Int → Int → Int → Int → Int → Int → β) (c0 c1 c2 c3 c4 c5 c6 c7 c8 c9 c10 c11 c12 c13 : D) : β := f (dInt c0) (dInt c1) (dInt c2) (dInt c3) (dInt c4) (dInt c5) (dInt c6) (dInt c7) (dInt c8) (dInt c9) (dInt c10) (dInt c11) (dInt c12) (dInt c13)
def qt25 (c0 c1 c2 c3 c4 c5 c6 c7 c8 c9 c10 c11 c12 c13 : D) : List Arg := [.agg [c0, c1, c2, c3, c4, c5, c6, c7, c8, c9, c10, c11, c12, c13]]
attribute [go_sem] qw25 qp25 qt25 qE25
abbrev qA26 := Int × Int × Int × Int × Int × Int × Int × Int × Int × Int × Int × Int × Int × Int × Int × Int
def qw26 (a0 : Int) (a1 : Int) (a2 : Int) (a3 : Int) (a4 : Int) (a5 : Int) (a6 : Int) (a7 : Int) (a8 : Int) (a9 : Int) (a10 : Int) (a11 : Int) (a12 : Int) (a13 : Int) (a14 : Int) (a15 : Int) : List Arg := [.agg [.int .i64 a0, .int .i64 a1, .int .i64 a2, .int .i64 a3, .int .i64 a4, .int .i64 a5, .int .i64 a6, .int .i64 a7], .agg [.int .i64 a8, .int .i64 a9, .int .i64 a10, .int .i64 a11], .agg [.int .i64 a12, .int .i64 a13, .int .i64 a14, .int .i64 a15]]
def qE26 : qA26 → List Arg := fun ⟨a0, a1, a2, a3, a4, a5, a6, a7, a8, a9, a10, a11, a12, a13, a14, a15⟩ => qw26 a0 a1 a2 a3 a4 a5 a6 a7 a8 a9 a10 a11 a12 a13 a14 a15
def qd26 (a : List Arg) : qA26 := (dInt (aCell a 0 0), dInt (aCell a 0 1), dInt (aCell a 0 2), dInt (aCell a 0 3), dInt (aCell a 0 4), dInt (aCell a 0 5), dInt (aCell a 0 6), dInt (aCell a 0 7), dInt (aCell a 1 0), dInt (aCell a 1 1), dInt (aCell a 1 2), dInt (aCell a 1 3), dInt (aCell a 2 0), dInt (aCell a 2 1), dInt (aCell a 2 2), dInt (aCell a 2 3))
def qp26 {β : Type} (f : Int → Int → Int → Int → Int → Int → Int → Int → Int → Int → Int → Int → Int → Int → Int → Int → β) (c0 c1 c2 c3 c4 c5 c6 c7 c8 c9 c10 c11 c12 c13 c14 c15 : D) : β := f (dInt c0) (dInt c1) (dInt c2) (dInt c3) (dInt c4) (dInt c5) (dInt c6) (dInt c7) (dInt c8) (dInt c9) (dInt c10) (dInt c11) (dInt c12) (dInt c13) (dInt c14) (dInt c15)
def qt26 (c0 c1 c2 c3 c4 c5 c6 c7 c8 c9 c10 c11 c12 c13 c14 c15 : D) : List Arg := [.agg [c0, c1, c2, c3, c4, c5, c6, c7], .agg [c8, c9, c10, c11], .agg [c12, c13, c14, c15]]
attribute [go_sem] qw26 qp26 qt26 qE26
def qu8 (v : (Option (Int × Int × Int))) : List RV := [.c (.d (encP d_III v))]
attribute [go_sem] qu8
def qu9 (v : (Option (Int × Int))) : List RV := [.c (.d (encP d_II v))]
attribute [go_sem] qu9
def qu11 (v : Int × Int × Int × Int) : List RV := [.agg [.d (.int .i64 v.1), .d (.int .i64 v.2.1), .d (.int .i64 v.2.2.1), .d (.int .i64 v.2.2.2)]]
attribute [go_sem] qu11
def qu12 (v : Int × Int × Int × Int × Int × Int × Int × Int) : List RV := [.agg [.d (.int .i64 v.1), .d (.int .i64 v.2.1), .d (.int .i64 v.2.2.1), .d (.int .i64 v.2.2.2.1), .d (.int .i64 v.2.2.2.2.1), .d (.int .i64 v.2.2.2.2.2.1), .d (.int .i64 v.2.2.2.2.2.2.1), .d (.int .i64 v.2.2.2.2.2.2.2)]]
attribute [go_sem] qu12
def qu13 (v : Int × Int) : List RV := [.agg [.d (.int .i64 v.1), .d (.int .i64 v.2)]]
attribute [go_sem] qu13
/- (martensite/steel.rules).cold$1 -/
def r125 (x0 : Int) (x2 : Int) (x3 : Int) (x1 : Int) : Option (Bool) :=
  some (decide (x0 ≥ x1))
def T125 : TSpec qA18 := mkT qE18 qd18 (fun ⟨x0, x2, x3, x1⟩ => r125 x0 x2 x3 x1) qu3 false
theorem TP125 (c0 c1 c2 c3 : D) : T125.sp.pre [.agg [c0, c1, c2], .ptr [c3]] = (eqvArgs (qt18 c0 c1 c2 c3) (qp18 qw18 c0 c1 c2 c3) ∧ (qp18 r125 c0 c1 c2 c3).isSome = true) := (rfl)
theorem TR125 (c0 c1 c2 c3 : D) : T125.sp.res [.agg [c0, c1, c2], .ptr [c3]] = qu3 ((qp18 r125 c0 c1 c2 c3).getD default) := (rfl)
theorem TA125 : T125.sp.alias = false := (rfl)
def tb125 : Fns := lk []
theorem tb125_ok : FnsOk Tryz.prog tb125 := FnsOk.nil
attribute [go_sem] TP125 TR125 TA125
section
attribute [local go_sem] T125 Tryz.results125
theorem v125 : Valid Tryz.prog 125 T125.sp := by
 refine valid_t (fn := Tryz.f125) (n := 8) ty_ok tb125_ok Tryz.func125 rfl Tryz.ntmps125 ?_
 rintro ⟨x0, x2, x3, x1⟩ hx
 obtain ⟨r, hr⟩ := oE (show (r125 x0 x2 x3 x1).isSome = true from hx)
 have hres : T125.res (x0, x2, x3, x1) = qu3 r := by simp only [T125, mkT, hr, oG]
 refine ⟨nL rfl, fun stop S => ?_⟩
 rw [hres] at S
 unfold r125 at hr
 refine S.gx [] ?_
 repeat refine gA ?_
 cases hr
 exact lf
theorem f125 : FnFact Tryz.prog 125 T125.sp := ⟨⟨Tryz.f125, Tryz.func125, by decide, rfl⟩, v125⟩
end

/- slices.IndexFunc[[]martensite/api.SteelCold,martensite/api.SteelCold] -/
def b143_1 (a0 : List (Int × Int × Int)) (x0 : Int) : (Int) → Ctl (Int) (Int) := fun s1 =>
  if (decide (s1 < (a0.length : Int))) = true then
   if 0 ≤ s1 ∧ s1 < (a0.length : Int) then
    bindC (r125 ((a0.getD s1.toNat default).1) ((a0.getD s1.toNat default).2.1) ((a0.getD s1.toNat default).2.2) x0) fun v1 =>
     if v1 = true then
      .out (some s1)
      else .next (IntKind.i64.wrap (s1 + 1))
    else .out none
   else .out (some (-1))
def r143 (a0 : List (Int × Int × Int)) (x0 : Int) : Option (Int) :=
  iterC (b143_1 a0 x0) 1000000000 0
def T143 : TSpec qA19 := mkT qE19 qd19 (fun ⟨a0, x0⟩ => r143 a0 x0) qu4 false
theorem TP143 (c0 c1 : D) : T143.sp.pre [.c c0, .clo 125 [[c1]]] = (eqvArgs (qt19 c0 c1) (qp19 qw19 c0 c1) ∧ (qp19 r143 c0 c1).isSome = true) := (rfl)
theorem TR143 (c0 c1 : D) : T143.sp.res [.c c0, .clo 125 [[c1]]] = qu4 ((qp19 r143 c0 c1).getD default) := (rfl)
theorem TA143 : T143.sp.alias = false := (rfl)
def tb143 : Fns := lk [(125, T125.sp)]
theorem tb143_ok : FnsOk Tryz.prog tb143 := .cons f125 (FnsOk.nil)
theorem tb143_125 : tb143 125 = some T125.sp := rfl
theorem lt143_0 : (IntKind.i64.wrap (0 + 1)) = 1 := by first | rfl | decide | simp
attribute [go_sem] TP143 TR143 TA143
section
attribute [local go_sem] T143 tb143_125 Tryz.results143 lt143_0
theorem v143 : Valid Tryz.prog 143 T143.sp := by
 refine valid_t (fn := Tryz.f143) (n := 19) ty_ok tb143_ok Tryz.func143 rfl Tryz.ntmps143 ?_
 rintro ⟨a0, x0⟩ hx
 obtain ⟨r, hr⟩ := oE (show (r143 a0 x0).isSome = true from hx)
 have hres : T143.res (a0, x0) = qu4 r := by simp only [T143, mkT, hr, oG]
 refine ⟨nL rfl, fun stop S => ?_⟩
 rw [hres] at S
 unfold r143 at hr
 refine S.gx [] ?_
 repeat refine gA ?_
 refine S.sees [0, 1, 7, 8] [] [] ?_ (Stop.iter S (fun s1 => ⟨[(0, .c (.d (encF 3 d_III a0))), (1, .c (.clo 125 [.sptr [.int .i64 x0] 0])), (7, .c (.d (.int .i64 (a0.length : Int)))), (8, .c (.d (.int .i64 s1)))], [], []⟩) (b143_1 a0 x0) (fun q => q = r) hr rfl ?_)
 ·exact lf
 ·intro s1 hr
  unfold b143_1 at hr
  refine S.gx [] ?_
  repeat refine gA ?_
  refine ⟨?_, ?_⟩ <;> intro hc
  ·have hr := ifP1 hr hc
   obtain ⟨hg2, hr⟩ := of_guard1 hr
   obtain ⟨v1, hv1, hr⟩ := of_bind1 hr
   try simp only [hv1, oG, oI, true_and, and_assoc]
   repeat refine gA ?_
   refine ⟨?_, ?_⟩ <;> intro hc
   ·have hr := ifP1 hr hc
    repeat refine gA ?_
    have hr := of_out0 hr
    cases hr
    exact lf
   ·have hr := ifN1 hr hc
    repeat refine gA ?_
    refine S.sees [0, 1, 7, 8] [] [] ?_ hr
    exact lf
  ·have hr := ifN1 hr hc
   repeat refine gA ?_
   have hr := of_out0 hr
   repeat refine gA ?_
   cases hr
   exact lf
theorem f143 : FnFact Tryz.prog 143 T143.sp := ⟨⟨Tryz.f143, Tryz.func143, by decide, rfl⟩, v143⟩
end

/- (martensite/steel.rules).cold -/
def r100 (x1 : List (Int × Int × Int × Int)) (x2 : List (Int × Int × Int × Int × Int)) (x0 : List (Int × Int × Int)) (x3 : List (Int × Int)) (x4 : Int) (x5 : Int) (x6 : Int) (x7 : Int) (a1 : Int) : Option ((Option (Int × Int × Int))) :=
  (r143 x0 a1).bind fun v1 =>
   if (decide (v1 ≥ 0)) = true then
    if 0 ≤ v1 ∧ v1 < (x0.length : Int) then
     some (some ((x0.getD v1.toNat default).1, (x0.getD v1.toNat default).2.1, (x0.getD v1.toNat default).2.2))
     else none
    else some none
def T100 : TSpec qA14 := mkT qE14 qd14 (fun ⟨x1, x2, x0, x3, x4, x5, x6, x7, a1⟩ => r100 x1 x2 x0 x3 x4 x5 x6 x7 a1) qu8 true
theorem TP100 (c0 c1 c2 c3 c4 c5 c6 c7 c8 : D) : T100.sp.pre [.agg [c0, c1, c2, c3, c4, c5, c6, c7], .c c8] = (eqvArgs (qt14 c0 c1 c2 c3 c4 c5 c6 c7 c8) (qp14 qw14 c0 c1 c2 c3 c4 c5 c6 c7 c8) ∧ (qp14 r100 c0 c1 c2 c3 c4 c5 c6 c7 c8).isSome = true) := (rfl)
theorem TR100 (c0 c1 c2 c3 c4 c5 c6 c7 c8 : D) : T100.sp.res [.agg [c0, c1, c2, c3, c4, c5, c6, c7], .c c8] = qu8 ((qp14 r100 c0 c1 c2 c3 c4 c5 c6 c7 c8).getD default) := (rfl)
theorem TA100 : T100.sp.alias = true := (rfl)
def tb100 : Fns := lk [(143, T143.sp)]
theorem tb100_ok : FnsOk Tryz.prog tb100 := .cons f143 (FnsOk.nil)
theorem tb100_143 : tb100 143 = some T143.sp := rfl
attribute [go_sem] TP100 TR100 TA100
section
attribute [local go_sem] T100 tb100_143 Tryz.results100 Tryz.results124
theorem v100 : Valid Tryz.prog 100 T100.sp := by
 refine valid_t (fn := Tryz.f100) (n := 10) ty_ok tb100_ok Tryz.func100 rfl Tryz.ntmps100 ?_
 rintro ⟨x1, x2, x0, x3, x4, x5, x6, x7, a1⟩ hx
 obtain ⟨r, hr⟩ := oE (show (r100 x1 x2 x0 x3 x4 x5 x6 x7 a1).isSome = true from hx)
 have hres : T100.res (x1, x2, x0, x3, x4, x5, x6, x7, a1) = qu8 r := by simp only [T100, mkT, hr, oG]
 refine ⟨nL rfl, fun stop S => ?_⟩
 rw [hres] at S
 unfold r100 at hr
 refine S.gx [1] ?_
 repeat refine gA ?_
 refine S.inl 4 [4] [] Tryz.func124 (by decide) rfl Tryz.ntmps124 (fun cx e => drawn_ok ty_ok tb100_ok cx e) (some 9) rfl rfl rfl rfl (nL rfl) (nL rfl) ?_
 refine gs ?_
 repeat refine gA ?_
 intro stop1 S1
 refine S1.gx [] ?_
 obtain ⟨v1, hv1, hr⟩ := of_bind0 hr
 try simp only [hv1, oG, oI, true_and, and_assoc]
 repeat refine gA ?_
 refine ⟨?_, ?_⟩ <;> intro hc
 ·have hr := ifP hr hc
  obtain ⟨hg2, hr⟩ := of_guard0 hr
  repeat refine gA ?_
  refine S.gx [1] ?_
  repeat refine gA ?_
  cases hr
  exact lf
 ·have hr := ifN hr hc
  repeat refine gA ?_
  refine S.gx [1] ?_
  repeat refine gA ?_
  cases hr
  exact lf
theorem f100 : FnFact Tryz.prog 100 T100.sp := ⟨⟨Tryz.f100, Tryz.func100, by decide, rfl⟩, v100⟩
end

/- martensite/steel.martensite -/
def r101 (a0 : Int) (a1 : Int) (a2 : Int) : Option (Int) :=
  some (if a1 < IntKind.i64.wrap ((IntKind.i64.wrap ((IntKind.i64.wrap (a0 + a1)) * a2)).tdiv 1000000) then IntKind.i64.wrap ((IntKind.i64.wrap ((IntKind.i64.wrap (a0 + a1)) * a2)).tdiv 1000000) else a1)
def T101 : TSpec qA2 := mkT qE2 qd2 (fun ⟨a0, a1, a2⟩ => r101 a0 a1 a2) qu4 false
theorem TP101 (c0 c1 c2 : D) : T101.sp.pre [.c c0, .c c1, .c c2] = (eqvArgs (qt2 c0 c1 c2) (qp2 qw2 c0 c1 c2) ∧ (qp2 r101 c0 c1 c2).isSome = true) := (rfl)
theorem TR101 (c0 c1 c2 : D) : T101.sp.res [.c c0, .c c1, .c c2] = qu4 ((qp2 r101 c0 c1 c2).getD default) := (rfl)
theorem TA101 : T101.sp.alias = false := (rfl)
def tb101 : Fns := lk []
theorem tb101_ok : FnsOk Tryz.prog tb101 := FnsOk.nil
attribute [go_sem] TP101 TR101 TA101
section
attribute [local go_sem] T101 Tryz.results101
theorem v101 : Valid Tryz.prog 101 T101.sp := by
 refine valid_t (fn := Tryz.f101) (n := 15) ty_ok tb101_ok Tryz.func101 rfl Tryz.ntmps101 ?_
 rintro ⟨a0, a1, a2⟩ hx
 obtain ⟨r, hr⟩ := oE (show (r101 a0 a1 a2).isSome = true from hx)
 have hres : T101.res (a0, a1, a2) = qu4 r := by simp only [T101, mkT, hr, oG]
 refine ⟨nL rfl, fun stop S => ?_⟩
 rw [hres] at S
 unfold r101 at hr
 refine S.gx [] ?_
 repeat refine gA ?_
 cases hr
 exact lf
theorem f101 : FnFact Tryz.prog 101 T101.sp := ⟨⟨Tryz.f101, Tryz.func101, by decide, rfl⟩, v101⟩
end

/- (martensite/steel.rules).temper$1 -/
def r127 (x0 : Int) (x2 : Int) (x1 : Int) : Option (Bool) :=
  some (decide (x0 ≤ x1))
def T127 : TSpec qA20 := mkT qE20 qd20 (fun ⟨x0, x2, x1⟩ => r127 x0 x2 x1) qu3 false
theorem TP127 (c0 c1 c2 : D) : T127.sp.pre [.agg [c0, c1], .ptr [c2]] = (eqvArgs (qt20 c0 c1 c2) (qp20 qw20 c0 c1 c2) ∧ (qp20 r127 c0 c1 c2).isSome = true) := (rfl)
theorem TR127 (c0 c1 c2 : D) : T127.sp.res [.agg [c0, c1], .ptr [c2]] = qu3 ((qp20 r127 c0 c1 c2).getD default) := (rfl)
theorem TA127 : T127.sp.alias = false := (rfl)
def tb127 : Fns := lk []
theorem tb127_ok : FnsOk Tryz.prog tb127 := FnsOk.nil
attribute [go_sem] TP127 TR127 TA127
section
attribute [local go_sem] T127 Tryz.results127
theorem v127 : Valid Tryz.prog 127 T127.sp := by
 refine valid_t (fn := Tryz.f127) (n := 8) ty_ok tb127_ok Tryz.func127 rfl Tryz.ntmps127 ?_
 rintro ⟨x0, x2, x1⟩ hx
 obtain ⟨r, hr⟩ := oE (show (r127 x0 x2 x1).isSome = true from hx)
 have hres : T127.res (x0, x2, x1) = qu3 r := by simp only [T127, mkT, hr, oG]
 refine ⟨nL rfl, fun stop S => ?_⟩
 rw [hres] at S
 unfold r127 at hr
 refine S.gx [] ?_
 repeat refine gA ?_
 cases hr
 exact lf
theorem f127 : FnFact Tryz.prog 127 T127.sp := ⟨⟨Tryz.f127, Tryz.func127, by decide, rfl⟩, v127⟩
end

/- (martensite/steel.rules).temper -/
def b102_1 (x0 : List (Int × Int)) (a1 : Int) : (Int) → Ctl (Int) ((Option (Int × Int))) := fun s1 =>
  if (decide (s1 ≥ 0)) = true then
   if 0 ≤ s1 ∧ s1 < (x0.length : Int) then
    if 0 ≤ s1 ∧ s1 < (x0.length : Int) then
     bindC (r127 ((x0.getD s1.toNat default).1) ((x0.getD s1.toNat default).2) a1) fun v1 =>
      if v1 = true then
       if 0 ≤ s1 ∧ s1 < (x0.length : Int) then
        .out (some (some ((x0.getD s1.toNat default).1, (x0.getD s1.toNat default).2)))
        else .out none
       else .next (IntKind.i64.wrap (s1 - 1))
     else .out none
    else .out none
   else .out (some none)
def r102 (x1 : List (Int × Int × Int × Int)) (x2 : List (Int × Int × Int × Int × Int)) (x3 : List (Int × Int × Int)) (x0 : List (Int × Int)) (x4 : Int) (x5 : Int) (x6 : Int) (x7 : Int) (a1 : Int) : Option ((Option (Int × Int))) :=
  iterC (b102_1 x0 a1) 1000000000 (IntKind.i64.wrap ((x0.length : Int) - 1))
def T102 : TSpec qA14 := mkT qE14 qd14 (fun ⟨x1, x2, x3, x0, x4, x5, x6, x7, a1⟩ => r102 x1 x2 x3 x0 x4 x5 x6 x7 a1) qu9 true
theorem TP102 (c0 c1 c2 c3 c4 c5 c6 c7 c8 : D) : T102.sp.pre [.agg [c0, c1, c2, c3, c4, c5, c6, c7], .c c8] = (eqvArgs (qt14 c0 c1 c2 c3 c4 c5 c6 c7 c8) (qp14 qw14 c0 c1 c2 c3 c4 c5 c6 c7 c8) ∧ (qp14 r102 c0 c1 c2 c3 c4 c5 c6 c7 c8).isSome = true) := (rfl)
theorem TR102 (c0 c1 c2 c3 c4 c5 c6 c7 c8 : D) : T102.sp.res [.agg [c0, c1, c2, c3, c4, c5, c6, c7], .c c8] = qu9 ((qp14 r102 c0 c1 c2 c3 c4 c5 c6 c7 c8).getD default) := (rfl)
theorem TA102 : T102.sp.alias = true := (rfl)
def tb102 : Fns := lk [(127, T127.sp)]
theorem tb102_ok : FnsOk Tryz.prog tb102 := .cons f127 (FnsOk.nil)
theorem tb102_127 : tb102 127 = some T127.sp := rfl
attribute [go_sem] TP102 TR102 TA102
section
attribute [local go_sem] T102 tb102_127 Tryz.results102 Tryz.results126 Tryz.results144 Tryz.results155
theorem v102 : Valid Tryz.prog 102 T102.sp := by
 refine valid_t (fn := Tryz.f102) (n := 10) ty_ok tb102_ok Tryz.func102 rfl Tryz.ntmps102 ?_
 rintro ⟨x1, x2, x3, x0, x4, x5, x6, x7, a1⟩ hx
 obtain ⟨r, hr⟩ := oE (show (r102 x1 x2 x3 x0 x4 x5 x6 x7 a1).isSome = true from hx)
 have hres : T102.res (x1, x2, x3, x0, x4, x5, x6, x7, a1) = qu9 r := by simp only [T102, mkT, hr, oG]
 refine ⟨nL rfl, fun stop S => ?_⟩
 rw [hres] at S
 unfold r102 at hr
 refine S.gx [1] ?_
 repeat refine gA ?_
 refine S.inl 4 [4] [] Tryz.func126 (by decide) rfl Tryz.ntmps126 (fun cx e => drawn_ok ty_ok tb102_ok cx e) (some 9) rfl rfl rfl rfl (nL rfl) (nL rfl) ?_
 refine gs ?_
 repeat refine gA ?_
 intro stop1 S1
 refine S1.gx [1, 3] ?_
 repeat refine gA ?_
 refine S1.inl 1 [2, 3, 4] [] Tryz.func144 (by decide) rfl Tryz.ntmps144 (fun cx e => drawn_ok ty_ok tb102_ok cx e) (some 7) rfl rfl rfl rfl (nL rfl) (nL rfl) ?_
 refine gs ?_
 repeat refine gA ?_
 intro stop2 S2
 refine S2.gx [] ?_
 repeat refine gA ?_
 refine S1.gx [1, 3] ?_
 repeat refine gA ?_
 refine S1.range [2, 3, 4] Tryz.func155 (by decide) rfl Tryz.ntmps155 Tryz.results155 (fun cx e => drawn_ok ty_ok tb102_ok cx e) (fun cx e => drawn_ok ty_ok tb102_ok cx e) (by decide) rfl rfl (nL rfl) ?_
 intro l2 stop2 stopJ2 S2 SJ2 Y2
 refine S2.gx [3] ?_
 repeat refine gA ?_
 refine S2.sees [0, 1, 3] [(1, 1), (100002, 100002), (100003, 100003), (4, 4), (3, 3)] [] ?_ (Stop.iter S2 (fun s1 => ⟨[(0, .c (.yld l2)), (1, .c (.ref 1 0)), (3, .c (.d (.int .i64 s1)))], [(1, [.d (encF 2 d_II x0)]), (100002, [.d (encF 2 d_II x0)]), (100003, [.clo 127 [.ref 3 0]]), (4, [.d (encP d_II none)]), (3, [.d (.int .i64 a1)])], []⟩) (b102_1 x0 a1) (fun q => q = r) hr rfl ?_)
 ·exact lf
 ·intro s1 hr
  unfold b102_1 at hr
  refine S2.gx [3] ?_
  repeat refine gA ?_
  refine ⟨?_, ?_⟩ <;> intro hc
  ·have hr := ifP1 hr hc
   repeat refine gA ?_
   refine Y2 6 [0, 1, 3] (some 17) rfl rfl rfl rfl (nL rfl) (by rfl) ?_
   refine gs ?_
   obtain ⟨hg4, hr⟩ := of_guard1 hr
   repeat refine gA ?_
   intro stopA3 SA3
   refine SA3.gx [] ?_
   repeat refine gA ?_
   intro stop3 S3
   refine S3.gx [1, 3] ?_
   repeat refine gA ?_
   refine S3.gx [1] ?_
   obtain ⟨hg3, hr⟩ := of_guard1 hr
   obtain ⟨v1, hv1, hr⟩ := of_bind1 hr
   try simp only [hv1, oG, oI, true_and, and_assoc]
   repeat refine gA ?_
   refine ⟨?_, ?_⟩ <;> intro hc
   ·have hr := ifP1 hr hc
    obtain ⟨hg2, hr⟩ := of_guard1 hr
    repeat refine gA ?_
    refine (SJ2 .ret).gx [3] ?_
    repeat refine gA ?_
    have hr := of_out0 hr
    repeat refine gA ?_
    refine S1.gx [1, 3] ?_
    repeat refine gA ?_
    refine S.gx [1] ?_
    repeat refine gA ?_
    cases hr
    exact lf
   ·have hr := ifN1 hr hc
    repeat refine gA ?_
    refine S2.gx [3] ?_
    repeat refine gA ?_
    refine S2.sees [0, 1, 3] [(1, 1), (100002, 100002), (100003, 100003), (4, 4), (3, 3)] [] ?_ hr
    exact lf
  ·have hr := ifN1 hr hc
   repeat refine gA ?_
   have hr := of_out0 hr
   repeat refine gA ?_
   refine S1.gx [1, 3] ?_
   repeat refine gA ?_
   refine S.gx [1] ?_
   repeat refine gA ?_
   cases hr
   exact lf
theorem f102 : FnFact Tryz.prog 102 T102.sp := ⟨⟨Tryz.f102, Tryz.func102, by decide, rfl⟩, v102⟩
end

/- (martensite/steel.rules).step -/
def r76 (x7 : List (Int × Int × Int × Int)) (x8 : List (Int × Int × Int × Int × Int)) (x9 : List (Int × Int × Int)) (x10 : List (Int × Int)) (x11 : Int) (x12 : Int) (x13 : Int) (x14 : Int) (x2 : Int) (x0 : Int) (x3 : Int) (x1 : Int) (x4 : Int) (x6 : Int) (x5 : Int) (a2 : Int) (x17 : Int) (x16 : Int) (x15 : Int) : Option (Int × Int × Int × Int × Int × Int × Int) :=
  (r97 x7 x8 x9 x10 x11 x12 x13 x14 a2).bind fun v1 =>
   if v1.isSome = true then
    if v1.isSome = true then
     if v1.isSome = true then
      (r98 ((v1.getD default).2.1) ((v1.getD default).2.2.1) x17).bind fun v2 =>
       if (decide ((IntKind.i64.wrap (x0 + (if v2 < IntKind.i64.wrap (x2 + (IntKind.i64.wrap (x3 + x1))) then v2 else IntKind.i64.wrap (x2 + (IntKind.i64.wrap (x3 + x1)))))) > 0)) = true then
        if v1.isSome = true then
         if v1.isSome = true then
          some (IntKind.i64.wrap ((IntKind.i64.wrap (x2 + (IntKind.i64.wrap (x3 + x1)))) - (if v2 < IntKind.i64.wrap (x2 + (IntKind.i64.wrap (x3 + x1))) then v2 else IntKind.i64.wrap (x2 + (IntKind.i64.wrap (x3 + x1))))), IntKind.i64.wrap (x0 + (if v2 < IntKind.i64.wrap (x2 + (IntKind.i64.wrap (x3 + x1))) then v2 else IntKind.i64.wrap (x2 + (IntKind.i64.wrap (x3 + x1))))), 0, 0, 0, (if IntKind.i64.wrap (x6 + ((v1.getD default).2.2.2)) < 100000 then IntKind.i64.wrap (x6 + ((v1.getD default).2.2.2)) else 100000), 0)
          else none
         else none
        else some (IntKind.i64.wrap ((IntKind.i64.wrap (x2 + (IntKind.i64.wrap (x3 + x1)))) - (if v2 < IntKind.i64.wrap (x2 + (IntKind.i64.wrap (x3 + x1))) then v2 else IntKind.i64.wrap (x2 + (IntKind.i64.wrap (x3 + x1))))), IntKind.i64.wrap (x0 + (if v2 < IntKind.i64.wrap (x2 + (IntKind.i64.wrap (x3 + x1))) then v2 else IntKind.i64.wrap (x2 + (IntKind.i64.wrap (x3 + x1))))), 0, 0, 0, x6, 0)
      else none
     else none
    else (r99 x7 x8 x9 x10 x11 x12 x13 x14 a2).bind fun v7 =>
     if v7.isSome = true then
      if v7.isSome = true then
       if v7.isSome = true then
        (r98 ((v7.getD default).2.1) ((v7.getD default).2.2.1) x16).bind fun v8 =>
         if ((if IntKind.i64.wrap (x4 + v8) < 1000000 then IntKind.i64.wrap (x4 + v8) else 1000000) == 1000000) = true then
          if v7.isSome = true then
           if v7.isSome = true then
            (r98 ((v7.getD default).2.2.2.1) ((v7.getD default).2.2.2.2) x16).bind fun v9 =>
             (r100 x7 x8 x9 x10 x11 x12 x13 x14 a2).bind fun v10 =>
              if v10.isSome = true then
               if v10.isSome = true then
                if v10.isSome = true then
                 (r98 ((v10.getD default).2.1) ((v10.getD default).2.2) x15).bind fun v11 =>
                  (r101 (IntKind.i64.wrap (x0 - (if v9 < x0 then v9 else x0))) x1 v11).bind fun v12 =>
                   (r102 x7 x8 x9 x10 x11 x12 x13 x14 a2).bind fun v13 =>
                    if v13.isSome = true then
                     if v13.isSome = true then
                      if v13.isSome = true then
                       some (x2, IntKind.i64.wrap ((IntKind.i64.wrap (x0 - (if v9 < x0 then v9 else x0))) - (IntKind.i64.wrap (v12 - x1))), IntKind.i64.wrap (x3 + (if v9 < x0 then v9 else x0)), v12, (if IntKind.i64.wrap (x4 + v8) < 1000000 then IntKind.i64.wrap (x4 + v8) else 1000000), x6, (if IntKind.i64.wrap (x5 + ((v13.getD default).2)) < 1000000 then IntKind.i64.wrap (x5 + ((v13.getD default).2)) else 1000000))
                       else none
                      else none
                     else some (x2, IntKind.i64.wrap ((IntKind.i64.wrap (x0 - (if v9 < x0 then v9 else x0))) - (IntKind.i64.wrap (v12 - x1))), IntKind.i64.wrap (x3 + (if v9 < x0 then v9 else x0)), v12, (if IntKind.i64.wrap (x4 + v8) < 1000000 then IntKind.i64.wrap (x4 + v8) else 1000000), x6, x5)
                 else none
                else none
               else (r102 x7 x8 x9 x10 x11 x12 x13 x14 a2).bind fun v18 =>
                if v18.isSome = true then
                 if v18.isSome = true then
                  if v18.isSome = true then
                   some (x2, IntKind.i64.wrap (x0 - (if v9 < x0 then v9 else x0)), IntKind.i64.wrap (x3 + (if v9 < x0 then v9 else x0)), x1, (if IntKind.i64.wrap (x4 + v8) < 1000000 then IntKind.i64.wrap (x4 + v8) else 1000000), x6, (if IntKind.i64.wrap (x5 + ((v18.getD default).2)) < 1000000 then IntKind.i64.wrap (x5 + ((v18.getD default).2)) else 1000000))
                   else none
                  else none
                 else some (x2, IntKind.i64.wrap (x0 - (if v9 < x0 then v9 else x0)), IntKind.i64.wrap (x3 + (if v9 < x0 then v9 else x0)), x1, (if IntKind.i64.wrap (x4 + v8) < 1000000 then IntKind.i64.wrap (x4 + v8) else 1000000), x6, x5)
            else none
           else none
          else (r100 x7 x8 x9 x10 x11 x12 x13 x14 a2).bind fun v23 =>
           if v23.isSome = true then
            if v23.isSome = true then
             if v23.isSome = true then
              (r98 ((v23.getD default).2.1) ((v23.getD default).2.2) x15).bind fun v24 =>
               (r101 x0 x1 v24).bind fun v25 =>
                (r102 x7 x8 x9 x10 x11 x12 x13 x14 a2).bind fun v26 =>
                 if v26.isSome = true then
                  if v26.isSome = true then
                   if v26.isSome = true then
                    some (x2, IntKind.i64.wrap (x0 - (IntKind.i64.wrap (v25 - x1))), x3, v25, (if IntKind.i64.wrap (x4 + v8) < 1000000 then IntKind.i64.wrap (x4 + v8) else 1000000), x6, (if IntKind.i64.wrap (x5 + ((v26.getD default).2)) < 1000000 then IntKind.i64.wrap (x5 + ((v26.getD default).2)) else 1000000))
                    else none
                   else none
                  else some (x2, IntKind.i64.wrap (x0 - (IntKind.i64.wrap (v25 - x1))), x3, v25, (if IntKind.i64.wrap (x4 + v8) < 1000000 then IntKind.i64.wrap (x4 + v8) else 1000000), x6, x5)
              else none
             else none
            else (r102 x7 x8 x9 x10 x11 x12 x13 x14 a2).bind fun v31 =>
             if v31.isSome = true then
              if v31.isSome = true then
               if v31.isSome = true then
                some (x2, x0, x3, x1, (if IntKind.i64.wrap (x4 + v8) < 1000000 then IntKind.i64.wrap (x4 + v8) else 1000000), x6, (if IntKind.i64.wrap (x5 + ((v31.getD default).2)) < 1000000 then IntKind.i64.wrap (x5 + ((v31.getD default).2)) else 1000000))
                else none
               else none
              else some (x2, x0, x3, x1, (if IntKind.i64.wrap (x4 + v8) < 1000000 then IntKind.i64.wrap (x4 + v8) else 1000000), x6, x5)
        else none
       else none
      else (r100 x7 x8 x9 x10 x11 x12 x13 x14 a2).bind fun v36 =>
       if v36.isSome = true then
        if v36.isSome = true then
         if v36.isSome = true then
          (r98 ((v36.getD default).2.1) ((v36.getD default).2.2) x15).bind fun v37 =>
           (r101 x0 x1 v37).bind fun v38 =>
            (r102 x7 x8 x9 x10 x11 x12 x13 x14 a2).bind fun v39 =>
             if v39.isSome = true then
              if v39.isSome = true then
               if v39.isSome = true then
                some (x2, IntKind.i64.wrap (x0 - (IntKind.i64.wrap (v38 - x1))), x3, v38, x4, x6, (if IntKind.i64.wrap (x5 + ((v39.getD default).2)) < 1000000 then IntKind.i64.wrap (x5 + ((v39.getD default).2)) else 1000000))
                else none
               else none
              else some (x2, IntKind.i64.wrap (x0 - (IntKind.i64.wrap (v38 - x1))), x3, v38, x4, x6, x5)
          else none
         else none
        else (r102 x7 x8 x9 x10 x11 x12 x13 x14 a2).bind fun v44 =>
         if v44.isSome = true then
          if v44.isSome = true then
           if v44.isSome = true then
            some (x2, x0, x3, x1, x4, x6, (if IntKind.i64.wrap (x5 + ((v44.getD default).2)) < 1000000 then IntKind.i64.wrap (x5 + ((v44.getD default).2)) else 1000000))
            else none
           else none
          else some (x2, x0, x3, x1, x4, x6, x5)
def T76 : TSpec qA21 := mkT qE21 qd21 (fun ⟨x7, x8, x9, x10, x11, x12, x13, x14, x2, x0, x3, x1, x4, x6, x5, a2, x17, x16, x15⟩ => r76 x7 x8 x9 x10 x11 x12 x13 x14 x2 x0 x3 x1 x4 x6 x5 a2 x17 x16 x15) qu1 false
theorem TP76 (c0 c1 c2 c3 c4 c5 c6 c7 c8 c9 c10 c11 c12 c13 c14 c15 c16 c17 c18 : D) : T76.sp.pre [.agg [c0, c1, c2, c3, c4, c5, c6, c7], .agg [c8, c9, c10, c11, c12, c13, c14], .c c15, .agg [c16, c17, c18]] = (eqvArgs (qt21 c0 c1 c2 c3 c4 c5 c6 c7 c8 c9 c10 c11 c12 c13 c14 c15 c16 c17 c18) (qp21 qw21 c0 c1 c2 c3 c4 c5 c6 c7 c8 c9 c10 c11 c12 c13 c14 c15 c16 c17 c18) ∧ (qp21 r76 c0 c1 c2 c3 c4 c5 c6 c7 c8 c9 c10 c11 c12 c13 c14 c15 c16 c17 c18).isSome = true) := (rfl)
theorem TR76 (c0 c1 c2 c3 c4 c5 c6 c7 c8 c9 c10 c11 c12 c13 c14 c15 c16 c17 c18 : D) : T76.sp.res [.agg [c0, c1, c2, c3, c4, c5, c6, c7], .agg [c8, c9, c10, c11, c12, c13, c14], .c c15, .agg [c16, c17, c18]] = qu1 ((qp21 r76 c0 c1 c2 c3 c4 c5 c6 c7 c8 c9 c10 c11 c12 c13 c14 c15 c16 c17 c18).getD default) := (rfl)
theorem TA76 : T76.sp.alias = false := (rfl)
def tb76 : Fns := lk [(97, T97.sp), (98, T98.sp), (99, T99.sp), (100, T100.sp), (101, T101.sp), (102, T102.sp)]
theorem tb76_ok : FnsOk Tryz.prog tb76 := .cons f97 (.cons f98 (.cons f99 (.cons f100 (.cons f101 (.cons f102 (FnsOk.nil))))))
theorem tb76_97 : tb76 97 = some T97.sp := rfl
theorem tb76_98 : tb76 98 = some T98.sp := rfl
theorem tb76_99 : tb76 99 = some T99.sp := rfl
theorem tb76_100 : tb76 100 = some T100.sp := rfl
theorem tb76_101 : tb76 101 = some T101.sp := rfl
theorem tb76_102 : tb76 102 = some T102.sp := rfl
attribute [go_sem] TP76 TR76 TA76
section
attribute [local go_sem] T76 tb76_97 tb76_98 tb76_99 tb76_100 tb76_101 tb76_102 Tryz.results76
theorem v76 : Valid Tryz.prog 76 T76.sp := by
 refine valid_t (fn := Tryz.f76) (n := 149) ty_ok tb76_ok Tryz.func76 rfl Tryz.ntmps76 ?_
 rintro ⟨x7, x8, x9, x10, x11, x12, x13, x14, x2, x0, x3, x1, x4, x6, x5, a2, x17, x16, x15⟩ hx
 obtain ⟨r, hr⟩ := oE (show (r76 x7 x8 x9 x10 x11 x12 x13 x14 x2 x0 x3 x1 x4 x6 x5 a2 x17 x16 x15).isSome = true from hx)
 have hres : T76.res (x7, x8, x9, x10, x11, x12, x13, x14, x2, x0, x3, x1, x4, x6, x5, a2, x17, x16, x15) = qu1 r := by simp only [T76, mkT, hr, oG]
 refine ⟨nL rfl, fun stop S => ?_⟩
 rw [hres] at S
 unfold r76 at hr
 refine S.gx [6, 16, 18, 21, 26] ?_
 obtain ⟨v1, hv1, hr⟩ := of_bind0 hr
 try simp only [hv1, oG, oI, true_and, and_assoc]
 repeat refine gA ?_
 refine ⟨?_, ?_⟩ <;> intro hc
 ·have hr := ifP hr hc
  obtain ⟨hg5, hr⟩ := of_guard0 hr
  obtain ⟨hg6, hr⟩ := of_guard0 hr
  obtain ⟨v2, hv2, hr⟩ := of_bind0 hr
  try simp only [hv2, oG, oI, true_and, and_assoc]
  repeat refine gA ?_
  refine S.prune [5, 8, 9, 10] ?_
  refine S.gx [16, 18, 21, 26] ?_
  repeat refine gA ?_
  refine ⟨?_, ?_⟩ <;> intro hc
  ·have hr := ifP hr hc
   obtain ⟨hg3, hr⟩ := of_guard0 hr
   obtain ⟨hg4, hr⟩ := of_guard0 hr
   repeat refine gA ?_
   cases hr
   exact lf
  ·have hr := ifN hr hc
   repeat refine gA ?_
   cases hr
   exact lf
 ·have hr := ifN hr hc
  obtain ⟨v7, hv7, hr⟩ := of_bind0 hr
  try simp only [hv7, oG, oI, true_and, and_assoc]
  repeat refine gA ?_
  refine ⟨?_, ?_⟩ <;> intro hc
  ·have hr := ifP hr hc
   obtain ⟨hg34, hr⟩ := of_guard0 hr
   obtain ⟨hg35, hr⟩ := of_guard0 hr
   obtain ⟨v8, hv8, hr⟩ := of_bind0 hr
   try simp only [hv8, oG, oI, true_and, and_assoc]
   repeat refine gA ?_
   refine ⟨?_, ?_⟩ <;> intro hc
   ·have hr := ifP hr hc
    obtain ⟨hg21, hr⟩ := of_guard0 hr
    obtain ⟨hg22, hr⟩ := of_guard0 hr
    obtain ⟨v9, hv9, hr⟩ := of_bind0 hr
    try simp only [hv9, oG, oI, true_and, and_assoc]
    repeat refine gA ?_
    refine S.prune [2, 4, 5, 7, 8, 12] ?_
    refine S.gx [6, 18, 21, 26] ?_
    repeat refine gA ?_
    refine S.prune [2, 4, 5, 7, 8] ?_
    refine S.gx [6, 16, 21, 26] ?_
    obtain ⟨v10, hv10, hr⟩ := of_bind0 hr
    try simp only [hv10, oG, oI, true_and, and_assoc]
    repeat refine gA ?_
    refine ⟨?_, ?_⟩ <;> intro hc
    ·have hr := ifP hr hc
     obtain ⟨hg16, hr⟩ := of_guard0 hr
     obtain ⟨hg17, hr⟩ := of_guard0 hr
     obtain ⟨v11, hv11, hr⟩ := of_bind0 hr
     obtain ⟨v12, hv12, hr⟩ := of_bind0 hr
     try simp only [hv11, hv12, Option.getD_some, Option.isSome_some, true_and, and_assoc]
     repeat refine gA ?_
     refine S.prune [2, 4, 5, 8, 14] ?_
     refine S.gx [6, 16, 18, 26] ?_
     repeat refine gA ?_
     obtain ⟨v13, hv13, hr⟩ := of_bind0 hr
     try simp only [hv13, oG, oI, true_and, and_assoc]
     repeat refine gA ?_
     refine ⟨?_, ?_⟩ <;> intro hc
     ·have hr := ifP hr hc
      obtain ⟨hg14, hr⟩ := of_guard0 hr
      obtain ⟨hg15, hr⟩ := of_guard0 hr
      repeat refine gA ?_
      refine S.prune [5, 8] ?_
      refine S.gx [6, 16, 18, 21] ?_
      repeat refine gA ?_
      cases hr
      exact lf
     ·have hr := ifN hr hc
      repeat refine gA ?_
      refine S.prune [5, 8] ?_
      refine S.gx [6, 16, 18, 21] ?_
      repeat refine gA ?_
      cases hr
      exact lf
    ·have hr := ifN hr hc
     obtain ⟨v18, hv18, hr⟩ := of_bind0 hr
     try simp only [hv18, oG, oI, true_and, and_assoc]
     repeat refine gA ?_
     refine ⟨?_, ?_⟩ <;> intro hc
     ·have hr := ifP hr hc
      obtain ⟨hg19, hr⟩ := of_guard0 hr
      obtain ⟨hg20, hr⟩ := of_guard0 hr
      repeat refine gA ?_
      refine S.prune [5, 8] ?_
      refine S.gx [6, 16, 18, 21] ?_
      repeat refine gA ?_
      cases hr
      exact lf
     ·have hr := ifN hr hc
      repeat refine gA ?_
      refine S.prune [5, 8] ?_
      refine S.gx [6, 16, 18, 21] ?_
      repeat refine gA ?_
      cases hr
      exact lf
   ·have hr := ifN hr hc
    repeat refine gA ?_
    refine S.prune [2, 4, 5, 7, 8] ?_
    refine S.gx [6, 16, 21, 26] ?_
    obtain ⟨v23, hv23, hr⟩ := of_bind0 hr
    try simp only [hv23, oG, oI, true_and, and_assoc]
    repeat refine gA ?_
    refine ⟨?_, ?_⟩ <;> intro hc
    ·have hr := ifP hr hc
     obtain ⟨hg29, hr⟩ := of_guard0 hr
     obtain ⟨hg30, hr⟩ := of_guard0 hr
     obtain ⟨v24, hv24, hr⟩ := of_bind0 hr
     obtain ⟨v25, hv25, hr⟩ := of_bind0 hr
     try simp only [hv24, hv25, Option.getD_some, Option.isSome_some, true_and, and_assoc]
     repeat refine gA ?_
     refine S.prune [2, 4, 5, 8, 14] ?_
     refine S.gx [6, 16, 18, 26] ?_
     repeat refine gA ?_
     obtain ⟨v26, hv26, hr⟩ := of_bind0 hr
     try simp only [hv26, oG, oI, true_and, and_assoc]
     repeat refine gA ?_
     refine ⟨?_, ?_⟩ <;> intro hc
     ·have hr := ifP hr hc
      obtain ⟨hg27, hr⟩ := of_guard0 hr
      obtain ⟨hg28, hr⟩ := of_guard0 hr
      repeat refine gA ?_
      refine S.prune [5, 8] ?_
      refine S.gx [6, 16, 18, 21] ?_
      repeat refine gA ?_
      cases hr
      exact lf
     ·have hr := ifN hr hc
      repeat refine gA ?_
      refine S.prune [5, 8] ?_
      refine S.gx [6, 16, 18, 21] ?_
      repeat refine gA ?_
      cases hr
      exact lf
    ·have hr := ifN hr hc
     obtain ⟨v31, hv31, hr⟩ := of_bind0 hr
     try simp only [hv31, oG, oI, true_and, and_assoc]
     repeat refine gA ?_
     refine ⟨?_, ?_⟩ <;> intro hc
     ·have hr := ifP hr hc
      obtain ⟨hg32, hr⟩ := of_guard0 hr
      obtain ⟨hg33, hr⟩ := of_guard0 hr
      repeat refine gA ?_
      refine S.prune [5, 8] ?_
      refine S.gx [6, 16, 18, 21] ?_
      repeat refine gA ?_
      cases hr
      exact lf
     ·have hr := ifN hr hc
      repeat refine gA ?_
      refine S.prune [5, 8] ?_
      refine S.gx [6, 16, 18, 21] ?_
      repeat refine gA ?_
      cases hr
      exact lf
  ·have hr := ifN hr hc
   repeat refine gA ?_
   refine S.prune [2, 4, 5, 7, 8] ?_
   refine S.gx [6, 16, 21, 26] ?_
   obtain ⟨v36, hv36, hr⟩ := of_bind0 hr
   try simp only [hv36, oG, oI, true_and, and_assoc]
   repeat refine gA ?_
   refine ⟨?_, ?_⟩ <;> intro hc
   ·have hr := ifP hr hc
    obtain ⟨hg42, hr⟩ := of_guard0 hr
    obtain ⟨hg43, hr⟩ := of_guard0 hr
    obtain ⟨v37, hv37, hr⟩ := of_bind0 hr
    obtain ⟨v38, hv38, hr⟩ := of_bind0 hr
    try simp only [hv37, hv38, Option.getD_some, Option.isSome_some, true_and, and_assoc]
    repeat refine gA ?_
    refine S.prune [2, 4, 5, 8, 14] ?_
    refine S.gx [6, 16, 18, 26] ?_
    repeat refine gA ?_
    obtain ⟨v39, hv39, hr⟩ := of_bind0 hr
    try simp only [hv39, oG, oI, true_and, and_assoc]
    repeat refine gA ?_
    refine ⟨?_, ?_⟩ <;> intro hc
    ·have hr := ifP hr hc
     obtain ⟨hg40, hr⟩ := of_guard0 hr
     obtain ⟨hg41, hr⟩ := of_guard0 hr
     repeat refine gA ?_
     refine S.prune [5, 8] ?_
     refine S.gx [6, 16, 18, 21] ?_
     repeat refine gA ?_
     cases hr
     exact lf
    ·have hr := ifN hr hc
     repeat refine gA ?_
     refine S.prune [5, 8] ?_
     refine S.gx [6, 16, 18, 21] ?_
     repeat refine gA ?_
     cases hr
     exact lf
   ·have hr := ifN hr hc
    obtain ⟨v44, hv44, hr⟩ := of_bind0 hr
    try simp only [hv44, oG, oI, true_and, and_assoc]
    repeat refine gA ?_
    refine ⟨?_, ?_⟩ <;> intro hc
    ·have hr := ifP hr hc
     obtain ⟨hg45, hr⟩ := of_guard0 hr
     obtain ⟨hg46, hr⟩ := of_guard0 hr
     repeat refine gA ?_
     refine S.prune [5, 8] ?_
     refine S.gx [6, 16, 18, 21] ?_
     repeat refine gA ?_
     cases hr
     exact lf
    ·have hr := ifN hr hc
     repeat refine gA ?_
     refine S.prune [5, 8] ?_
     refine S.gx [6, 16, 18, 21] ?_
     repeat refine gA ?_
     cases hr
     exact lf
theorem f76 : FnFact Tryz.prog 76 T76.sp := ⟨⟨Tryz.f76, Tryz.func76, by decide, rfl⟩, v76⟩
end

/- (martensite/steel.rules).run -/
def b47_1 (x0 : List (Int × Int × Int × Int)) (x1 : List (Int × Int × Int × Int × Int)) (x2 : List (Int × Int × Int)) (x3 : List (Int × Int)) (x4 : Int) (x5 : Int) (x6 : Int) (x7 : Int) (a2 : List (Int)) (x8 : Int) (x9 : Int) (x10 : Int) : (Int × Int × Int × Int × Int × Int × Int × Int) → Ctl (Int × Int × Int × Int × Int × Int × Int × Int) (Int × Int × Int × Int × Int × Int × Int) := fun s1 =>
  if (decide (s1.1 < (a2.length : Int))) = true then
   if 0 ≤ s1.1 ∧ s1.1 < (a2.length : Int) then
    bindC (r76 x0 x1 x2 x3 x4 x5 x6 x7 s1.2.1 s1.2.2.1 s1.2.2.2.1 s1.2.2.2.2.1 s1.2.2.2.2.2.1 s1.2.2.2.2.2.2.1 s1.2.2.2.2.2.2.2 (a2.getD s1.1.toNat default) x8 x9 x10) fun v1 =>
     .next (IntKind.i64.wrap (s1.1 + 1), v1.1, v1.2.1, v1.2.2.1, v1.2.2.2.1, v1.2.2.2.2.1, v1.2.2.2.2.2.1, v1.2.2.2.2.2.2)
    else .out none
   else .out (some (s1.2.1, s1.2.2.1, s1.2.2.2.1, s1.2.2.2.2.1, s1.2.2.2.2.2.1, s1.2.2.2.2.2.2.1, s1.2.2.2.2.2.2.2))
def r47 (x0 : List (Int × Int × Int × Int)) (x1 : List (Int × Int × Int × Int × Int)) (x2 : List (Int × Int × Int)) (x3 : List (Int × Int)) (x4 : Int) (x5 : Int) (x6 : Int) (x7 : Int) (x11 : Int) (x12 : Int) (x13 : Int) (x14 : Int) (x15 : Int) (x16 : Int) (x17 : Int) (a2 : List (Int)) (x8 : Int) (x9 : Int) (x10 : Int) : Option (Int × Int × Int × Int × Int × Int × Int) :=
  iterC (b47_1 x0 x1 x2 x3 x4 x5 x6 x7 a2 x8 x9 x10) 1000000000 (0, x11, x12, x13, x14, x15, x16, x17)
def T47 : TSpec qA22 := mkT qE22 qd22 (fun ⟨x0, x1, x2, x3, x4, x5, x6, x7, x11, x12, x13, x14, x15, x16, x17, a2, x8, x9, x10⟩ => r47 x0 x1 x2 x3 x4 x5 x6 x7 x11 x12 x13 x14 x15 x16 x17 a2 x8 x9 x10) qu1 false
theorem TP47 (c0 c1 c2 c3 c4 c5 c6 c7 c8 c9 c10 c11 c12 c13 c14 c15 c16 c17 c18 : D) : T47.sp.pre [.agg [c0, c1, c2, c3, c4, c5, c6, c7], .agg [c8, c9, c10, c11, c12, c13, c14], .c c15, .agg [c16, c17, c18]] = (eqvArgs (qt22 c0 c1 c2 c3 c4 c5 c6 c7 c8 c9 c10 c11 c12 c13 c14 c15 c16 c17 c18) (qp22 qw22 c0 c1 c2 c3 c4 c5 c6 c7 c8 c9 c10 c11 c12 c13 c14 c15 c16 c17 c18) ∧ (qp22 r47 c0 c1 c2 c3 c4 c5 c6 c7 c8 c9 c10 c11 c12 c13 c14 c15 c16 c17 c18).isSome = true) := (rfl)
theorem TR47 (c0 c1 c2 c3 c4 c5 c6 c7 c8 c9 c10 c11 c12 c13 c14 c15 c16 c17 c18 : D) : T47.sp.res [.agg [c0, c1, c2, c3, c4, c5, c6, c7], .agg [c8, c9, c10, c11, c12, c13, c14], .c c15, .agg [c16, c17, c18]] = qu1 ((qp22 r47 c0 c1 c2 c3 c4 c5 c6 c7 c8 c9 c10 c11 c12 c13 c14 c15 c16 c17 c18).getD default) := (rfl)
theorem TA47 : T47.sp.alias = false := (rfl)
def tb47 : Fns := lk [(76, T76.sp)]
theorem tb47_ok : FnsOk Tryz.prog tb47 := .cons f76 (FnsOk.nil)
theorem tb47_76 : tb47 76 = some T76.sp := rfl
theorem lt47_0 : (IntKind.i64.wrap (0 + 1)) = 1 := by first | rfl | decide | simp
attribute [go_sem] TP47 TR47 TA47
section
attribute [local go_sem] T47 tb47_76 Tryz.results47 lt47_0
theorem v47 : Valid Tryz.prog 47 T47.sp := by
 refine valid_t (fn := Tryz.f47) (n := 24) ty_ok tb47_ok Tryz.func47 rfl Tryz.ntmps47 ?_
 rintro ⟨x0, x1, x2, x3, x4, x5, x6, x7, x11, x12, x13, x14, x15, x16, x17, a2, x8, x9, x10⟩ hx
 obtain ⟨r, hr⟩ := oE (show (r47 x0 x1 x2 x3 x4 x5 x6 x7 x11 x12 x13 x14 x15 x16 x17 a2 x8 x9 x10).isSome = true from hx)
 have hres : T47.res (x0, x1, x2, x3, x4, x5, x6, x7, x11, x12, x13, x14, x15, x16, x17, a2, x8, x9, x10) = qu1 r := by simp only [T47, mkT, hr, oG]
 refine ⟨nL rfl, fun stop S => ?_⟩
 rw [hres] at S
 unfold r47 at hr
 refine S.gx [] ?_
 repeat refine gA ?_
 refine S.sees [4, 5, 7, 8, 11, 12, 13] [(4, 4), (5, 5), (7, 7), (8, 8)] [] ?_ (Stop.iter S (fun s1 => ⟨[(4, .c (.ref 4 0)), (5, .c (.ref 5 0)), (7, .c (.ref 7 0)), (8, .c (.ref 8 0)), (11, .c (.d (encF 1 d_I a2))), (12, .c (.d (.int .i64 (a2.length : Int)))), (13, .c (.d (.int .i64 s1.1)))], [(4, [.d (encF 4 d_IIII x0), .d (encF 5 d_IIIII x1), .d (encF 3 d_III x2), .d (encF 2 d_II x3), .d (.int .i64 x4), .d (.int .i64 x5), .d (.int .i64 x6), .d (.int .i64 x7)]), (5, [.d (.int .i64 s1.2.1), .d (.int .i64 s1.2.2.1), .d (.int .i64 s1.2.2.2.1), .d (.int .i64 s1.2.2.2.2.1), .d (.int .i64 s1.2.2.2.2.2.1), .d (.int .i64 s1.2.2.2.2.2.2.1), .d (.int .i64 s1.2.2.2.2.2.2.2)]), (7, [.d (.int .i64 x8), .d (.int .i64 x9), .d (.int .i64 x10)]), (8, [.d (.int .i64 0), .d (.int .i64 0), .d (.int .i64 0), .d (.int .i64 0), .d (.int .i64 0), .d (.int .i64 0), .d (.int .i64 0)])], []⟩) (b47_1 x0 x1 x2 x3 x4 x5 x6 x7 a2 x8 x9 x10) (fun q => q = r) hr rfl ?_)
 ·exact lf
 ·intro s1 hr
  unfold b47_1 at hr
  refine S.gx [] ?_
  repeat refine gA ?_
  refine ⟨?_, ?_⟩ <;> intro hc
  ·have hr := ifP1 hr hc
   obtain ⟨hg2, hr⟩ := of_guard1 hr
   obtain ⟨v1, hv1, hr⟩ := of_bind1 hr
   try simp only [hv1, oG, oI, true_and, and_assoc]
   repeat refine gA ?_
   refine S.sees [4, 5, 7, 8, 11, 12, 13] [(4, 4), (5, 5), (7, 7), (8, 8)] [] ?_ hr
   exact lf
  ·have hr := ifN1 hr hc
   repeat refine gA ?_
   have hr := of_out0 hr
   repeat refine gA ?_
   cases hr
   exact lf
theorem f47 : FnFact Tryz.prog 47 T47.sp := ⟨⟨Tryz.f47, Tryz.func47, by decide, rfl⟩, v47⟩
end

/- martensite/steel.RunOf -/
def r18 (x0 : List (Int × Int × Int × Int)) (x1 : List (Int × Int × Int × Int × Int)) (x2 : List (Int × Int × Int)) (x3 : List (Int × Int)) (x4 : Int) (x5 : Int) (x6 : Int) (x7 : Int) (x8 : Int) (x9 : Int) (x10 : Int) (x11 : Int) (x12 : Int) (x13 : Int) (x14 : Int) (x15 : List (Int)) (x16 : Int) (x17 : Int) (x18 : Int) : Option (Int × Int × Int × Int × Int × Int × Int × Int) :=
  (r34 x0 x1 x2 x3 x4 x5 x6 x7).bind fun v1 =>
   (r36 x8 x9 x10 x11 x12 x13 x14).bind fun v2 =>
    (r45 x15).bind fun v3 =>
     (r46 x16 x17 x18).bind fun v4 =>
      (r44 [v1, v2, v3, v4]).bind fun v5 =>
       if (v5 != 0) = true then
        some (0, 0, 0, 0, 0, 0, 0, v5)
        else (r47 x0 x1 x2 x3 x4 x5 x6 x7 x8 x9 x10 x11 x12 x13 x14 x15 x16 x17 x18).bind fun v6 =>
         some (v6.1, v6.2.1, v6.2.2.1, v6.2.2.2.1, v6.2.2.2.2.1, v6.2.2.2.2.2.1, v6.2.2.2.2.2.2, 0)
def T18 : TSpec qA23 := mkT qE23 qd23 (fun ⟨x0, x1, x2, x3, x4, x5, x6, x7, x8, x9, x10, x11, x12, x13, x14, x15, x16, x17, x18⟩ => r18 x0 x1 x2 x3 x4 x5 x6 x7 x8 x9 x10 x11 x12 x13 x14 x15 x16 x17 x18) qu10 false
theorem TP18 (c0 c1 c2 c3 c4 c5 c6 c7 c8 c9 c10 c11 c12 c13 c14 c15 c16 c17 c18 : D) : T18.sp.pre [.agg [c0, c1, c2, c3, c4, c5, c6, c7], .agg [c8, c9, c10, c11, c12, c13, c14], .agg [c15, c16, c17, c18]] = (eqvArgs (qt23 c0 c1 c2 c3 c4 c5 c6 c7 c8 c9 c10 c11 c12 c13 c14 c15 c16 c17 c18) (qp23 qw23 c0 c1 c2 c3 c4 c5 c6 c7 c8 c9 c10 c11 c12 c13 c14 c15 c16 c17 c18) ∧ (qp23 r18 c0 c1 c2 c3 c4 c5 c6 c7 c8 c9 c10 c11 c12 c13 c14 c15 c16 c17 c18).isSome = true) := (rfl)
theorem TR18 (c0 c1 c2 c3 c4 c5 c6 c7 c8 c9 c10 c11 c12 c13 c14 c15 c16 c17 c18 : D) : T18.sp.res [.agg [c0, c1, c2, c3, c4, c5, c6, c7], .agg [c8, c9, c10, c11, c12, c13, c14], .agg [c15, c16, c17, c18]] = qu10 ((qp23 r18 c0 c1 c2 c3 c4 c5 c6 c7 c8 c9 c10 c11 c12 c13 c14 c15 c16 c17 c18).getD default) := (rfl)
theorem TA18 : T18.sp.alias = false := (rfl)
def tb18 : Fns := lk [(34, T34.sp), (36, T36.sp), (44, T44.sp), (45, T45.sp), (46, T46.sp), (47, T47.sp)]
theorem tb18_ok : FnsOk Tryz.prog tb18 := .cons f34 (.cons f36 (.cons f44 (.cons f45 (.cons f46 (.cons f47 (FnsOk.nil))))))
theorem tb18_34 : tb18 34 = some T34.sp := rfl
theorem tb18_36 : tb18 36 = some T36.sp := rfl
theorem tb18_44 : tb18 44 = some T44.sp := rfl
theorem tb18_45 : tb18 45 = some T45.sp := rfl
theorem tb18_46 : tb18 46 = some T46.sp := rfl
theorem tb18_47 : tb18 47 = some T47.sp := rfl
attribute [go_sem] TP18 TR18 TA18
section
attribute [local go_sem] T18 tb18_34 tb18_36 tb18_44 tb18_45 tb18_46 tb18_47 Tryz.results18
theorem v18 : Valid Tryz.prog 18 T18.sp := by
 refine valid_t (fn := Tryz.f18) (n := 33) ty_ok tb18_ok Tryz.func18 rfl Tryz.ntmps18 ?_
 rintro ⟨x0, x1, x2, x3, x4, x5, x6, x7, x8, x9, x10, x11, x12, x13, x14, x15, x16, x17, x18⟩ hx
 obtain ⟨r, hr⟩ := oE (show (r18 x0 x1 x2 x3 x4 x5 x6 x7 x8 x9 x10 x11 x12 x13 x14 x15 x16 x17 x18).isSome = true from hx)
 have hres : T18.res (x0, x1, x2, x3, x4, x5, x6, x7, x8, x9, x10, x11, x12, x13, x14, x15, x16, x17, x18) = qu10 r := by simp only [T18, mkT, hr, oG]
 refine ⟨nL rfl, fun stop S => ?_⟩
 rw [hres] at S
 unfold r18 at hr
 refine S.gx [] ?_
 obtain ⟨v1, hv1, hr⟩ := of_bind0 hr
 obtain ⟨v2, hv2, hr⟩ := of_bind0 hr
 obtain ⟨v3, hv3, hr⟩ := of_bind0 hr
 obtain ⟨v4, hv4, hr⟩ := of_bind0 hr
 obtain ⟨v5, hv5, hr⟩ := of_bind0 hr
 try simp only [hv1, hv2, hv3, hv4, hv5, Option.getD_some, Option.isSome_some, true_and, and_assoc]
 repeat refine gA ?_
 refine ⟨?_, ?_⟩ <;> intro hc
 ·have hr := ifP hr hc
  repeat refine gA ?_
  cases hr
  exact lf
 ·have hr := ifN hr hc
  obtain ⟨v6, hv6, hr⟩ := of_bind0 hr
  try simp only [hv6, oG, oI, true_and, and_assoc]
  repeat refine gA ?_
  cases hr
  exact lf
theorem f18 : FnFact Tryz.prog 18 T18.sp := ⟨⟨Tryz.f18, Tryz.func18, by decide, rfl⟩, v18⟩
end

/- martensite/martensitelaw04.Austenite -/
def r21 : Option (Int × Int × Int × Int × Int × Int × Int) :=
  some (0, 1000000, 0, 0, 0, 0, 0)
def T21 : TSpec qA0 := mkT qE0 qd0 (fun _ => r21) qu1 false
theorem TP21 : T21.sp.pre [] = (eqvArgs (qt0 ) (qp0 qw0 ) ∧ (qp0 r21).isSome = true) := (rfl)
theorem TR21 : T21.sp.res [] = qu1 ((qp0 r21).getD default) := (rfl)
theorem TA21 : T21.sp.alias = false := (rfl)
def tb21 : Fns := lk []
theorem tb21_ok : FnsOk Tryz.prog tb21 := FnsOk.nil
attribute [go_sem] TP21 TR21 TA21
section
attribute [local go_sem] T21 Tryz.results21
theorem v21 : Valid Tryz.prog 21 T21.sp := by
 refine valid_t (fn := Tryz.f21) (n := 2) ty_ok tb21_ok Tryz.func21 rfl Tryz.ntmps21 ?_
 intro _ hx
 obtain ⟨r, hr⟩ := oE (show (r21).isSome = true from hx)
 have hres : T21.res () = qu1 r := by simp only [T21, mkT, hr, oG]
 refine ⟨nL rfl, fun stop S => ?_⟩
 rw [hres] at S
 unfold r21 at hr
 refine S.gx [] ?_
 repeat refine gA ?_
 cases hr
 exact lf
theorem f21 : FnFact Tryz.prog 21 T21.sp := ⟨⟨Tryz.f21, Tryz.func21, by decide, rfl⟩, v21⟩
end

/- (martensite/steel.rules).hardness -/
def r48 (x4 : List (Int × Int × Int × Int)) (x5 : List (Int × Int × Int × Int × Int)) (x6 : List (Int × Int × Int)) (x7 : List (Int × Int)) (x2 : Int) (x3 : Int) (x0 : Int) (x1 : Int) (a1 : Int) : Option (Int × Int × Int × Int) :=
  some (x2, x3, x0, (if x0 < IntKind.i64.wrap (x1 - a1) then IntKind.i64.wrap (x1 - a1) else x0))
def T48 : TSpec qA14 := mkT qE14 qd14 (fun ⟨x4, x5, x6, x7, x2, x3, x0, x1, a1⟩ => r48 x4 x5 x6 x7 x2 x3 x0 x1 a1) qu11 false
theorem TP48 (c0 c1 c2 c3 c4 c5 c6 c7 c8 : D) : T48.sp.pre [.agg [c0, c1, c2, c3, c4, c5, c6, c7], .c c8] = (eqvArgs (qt14 c0 c1 c2 c3 c4 c5 c6 c7 c8) (qp14 qw14 c0 c1 c2 c3 c4 c5 c6 c7 c8) ∧ (qp14 r48 c0 c1 c2 c3 c4 c5 c6 c7 c8).isSome = true) := (rfl)
theorem TR48 (c0 c1 c2 c3 c4 c5 c6 c7 c8 : D) : T48.sp.res [.agg [c0, c1, c2, c3, c4, c5, c6, c7], .c c8] = qu11 ((qp14 r48 c0 c1 c2 c3 c4 c5 c6 c7 c8).getD default) := (rfl)
theorem TA48 : T48.sp.alias = false := (rfl)
def tb48 : Fns := lk []
theorem tb48_ok : FnsOk Tryz.prog tb48 := FnsOk.nil
attribute [go_sem] TP48 TR48 TA48
section
attribute [local go_sem] T48 Tryz.results48
theorem v48 : Valid Tryz.prog 48 T48.sp := by
 refine valid_t (fn := Tryz.f48) (n := 18) ty_ok tb48_ok Tryz.func48 rfl Tryz.ntmps48 ?_
 rintro ⟨x4, x5, x6, x7, x2, x3, x0, x1, a1⟩ hx
 obtain ⟨r, hr⟩ := oE (show (r48 x4 x5 x6 x7 x2 x3 x0 x1 a1).isSome = true from hx)
 have hres : T48.res (x4, x5, x6, x7, x2, x3, x0, x1, a1) = qu11 r := by simp only [T48, mkT, hr, oG]
 refine ⟨nL rfl, fun stop S => ?_⟩
 rw [hres] at S
 unfold r48 at hr
 refine S.gx [] ?_
 repeat refine gA ?_
 cases hr
 exact lf
theorem f48 : FnFact Tryz.prog 48 T48.sp := ⟨⟨Tryz.f48, Tryz.func48, by decide, rfl⟩, v48⟩
end

/- martensite/steel.HardnessOf -/
def b22_1 (x0 : List (Int × Int × Int × Int)) (x1 : List (Int × Int × Int × Int × Int)) (x2 : List (Int × Int × Int)) (x3 : List (Int × Int)) (x4 : Int) (x5 : Int) (x6 : Int) (x7 : Int) (x9 : Int) (x10 : Int) (x11 : Int) (x12 : Int) (x8 : Int) : (Int × Int) → Ctl (Int × Int) (Int × Int) := fun s1 =>
  if (decide (s1.2 < 4)) = true then
   if s1.2 = 0 then
    bindC (r48 x0 x1 x2 x3 x4 x5 x6 x7 x8) fun v11 =>
     .next (IntKind.i64.wrap (s1.1 + (IntKind.i64.wrap (x9 * v11.1))), 1)
    else if s1.2 = 1 then
     bindC (r48 x0 x1 x2 x3 x4 x5 x6 x7 x8) fun v9 =>
      .next (IntKind.i64.wrap (s1.1 + (IntKind.i64.wrap (x10 * v9.2.1))), 2)
     else if s1.2 = 2 then
      bindC (r48 x0 x1 x2 x3 x4 x5 x6 x7 x8) fun v7 =>
       .next (IntKind.i64.wrap (s1.1 + (IntKind.i64.wrap (x11 * v7.2.2.1))), 3)
      else if s1.2 = 3 then
       bindC (r48 x0 x1 x2 x3 x4 x5 x6 x7 x8) fun v5 =>
        .next (IntKind.i64.wrap (s1.1 + (IntKind.i64.wrap (x12 * v5.2.2.2))), 4)
       else .out none
   else .out (some (IntKind.i64.wrap (s1.1.tdiv 1000000), 0))
def r22 (x0 : List (Int × Int × Int × Int)) (x1 : List (Int × Int × Int × Int × Int)) (x2 : List (Int × Int × Int)) (x3 : List (Int × Int)) (x4 : Int) (x5 : Int) (x6 : Int) (x7 : Int) (x9 : Int) (x10 : Int) (x11 : Int) (x12 : Int) (x13 : Int) (x14 : Int) (x8 : Int) : Option (Int × Int) :=
  (r34 x0 x1 x2 x3 x4 x5 x6 x7).bind fun v1 =>
   (r36 x9 x10 x11 x12 x13 x14 x8).bind fun v2 =>
    (r44 [v1, v2]).bind fun v3 =>
     if (v3 != 0) = true then
      some (0, v3)
      else iterC (b22_1 x0 x1 x2 x3 x4 x5 x6 x7 x9 x10 x11 x12 x8) 1000000000 (0, 0)
def T22 : TSpec qA24 := mkT qE24 qd24 (fun ⟨x0, x1, x2, x3, x4, x5, x6, x7, x9, x10, x11, x12, x13, x14, x8⟩ => r22 x0 x1 x2 x3 x4 x5 x6 x7 x9 x10 x11 x12 x13 x14 x8) qu5 false
theorem TP22 (c0 c1 c2 c3 c4 c5 c6 c7 c8 c9 c10 c11 c12 c13 c14 : D) : T22.sp.pre [.agg [c0, c1, c2, c3, c4, c5, c6, c7], .agg [c8, c9, c10, c11, c12, c13, c14]] = (eqvArgs (qt24 c0 c1 c2 c3 c4 c5 c6 c7 c8 c9 c10 c11 c12 c13 c14) (qp24 qw24 c0 c1 c2 c3 c4 c5 c6 c7 c8 c9 c10 c11 c12 c13 c14) ∧ (qp24 r22 c0 c1 c2 c3 c4 c5 c6 c7 c8 c9 c10 c11 c12 c13 c14).isSome = true) := (rfl)
theorem TR22 (c0 c1 c2 c3 c4 c5 c6 c7 c8 c9 c10 c11 c12 c13 c14 : D) : T22.sp.res [.agg [c0, c1, c2, c3, c4, c5, c6, c7], .agg [c8, c9, c10, c11, c12, c13, c14]] = qu5 ((qp24 r22 c0 c1 c2 c3 c4 c5 c6 c7 c8 c9 c10 c11 c12 c13 c14).getD default) := (rfl)
theorem TA22 : T22.sp.alias = false := (rfl)
def tb22 : Fns := lk [(34, T34.sp), (36, T36.sp), (44, T44.sp), (48, T48.sp)]
theorem tb22_ok : FnsOk Tryz.prog tb22 := .cons f34 (.cons f36 (.cons f44 (.cons f48 (FnsOk.nil))))
theorem tb22_34 : tb22 34 = some T34.sp := rfl
theorem tb22_36 : tb22 36 = some T36.sp := rfl
theorem tb22_44 : tb22 44 = some T44.sp := rfl
theorem tb22_48 : tb22 48 = some T48.sp := rfl
theorem lt22_0 : (decide ((0 : Int) < 4)) = true := by first | rfl | decide | simp
theorem lt22_1 : (IntKind.i64.wrap (0 + 1)) = 1 := by first | rfl | decide | simp
theorem lt22_2 : (((3 : Int) = 0 ∨ (0 : Int) < 3)) = True := by first | rfl | decide | simp
theorem lt22_3 : (IntKind.i64.wrap (3 + 1)) = 4 := by first | rfl | decide | simp
theorem lt22_4 : (((2 : Int) = 0 ∨ (0 : Int) < 2)) = True := by first | rfl | decide | simp
theorem lt22_5 : (IntKind.i64.wrap (2 + 1)) = 3 := by first | rfl | decide | simp
theorem lt22_6 : (((1 : Int) = 0 ∨ (0 : Int) < 1)) = True := by first | rfl | decide | simp
theorem lt22_7 : (IntKind.i64.wrap (1 + 1)) = 2 := by first | rfl | decide | simp
attribute [go_sem] TP22 TR22 TA22
section
attribute [local go_sem] T22 tb22_34 tb22_36 tb22_44 tb22_48 Tryz.results22 lt22_0 lt22_1 lt22_2 lt22_3 lt22_4 lt22_5 lt22_6 lt22_7
theorem v22 : Valid Tryz.prog 22 T22.sp := by
 refine valid_t (fn := Tryz.f22) (n := 46) ty_ok tb22_ok Tryz.func22 rfl Tryz.ntmps22 ?_
 rintro ⟨x0, x1, x2, x3, x4, x5, x6, x7, x9, x10, x11, x12, x13, x14, x8⟩ hx
 obtain ⟨r, hr⟩ := oE (show (r22 x0 x1 x2 x3 x4 x5 x6 x7 x9 x10 x11 x12 x13 x14 x8).isSome = true from hx)
 have hres : T22.res (x0, x1, x2, x3, x4, x5, x6, x7, x9, x10, x11, x12, x13, x14, x8) = qu5 r := by simp only [T22, mkT, hr, oG]
 refine ⟨nL rfl, fun stop S => ?_⟩
 rw [hres] at S
 unfold r22 at hr
 refine S.gx [7] ?_
 obtain ⟨v1, hv1, hr⟩ := of_bind0 hr
 obtain ⟨v2, hv2, hr⟩ := of_bind0 hr
 obtain ⟨v3, hv3, hr⟩ := of_bind0 hr
 try simp only [hv1, hv2, hv3, Option.getD_some, Option.isSome_some, true_and, and_assoc]
 repeat refine gA ?_
 refine ⟨?_, ?_⟩ <;> intro hc
 ·have hr := ifP hr hc
  repeat refine gA ?_
  cases hr
  exact lf
 ·have hr := ifN hr hc
  repeat refine gA ?_
  refine S.sees [2, 3, 7, 27, 28] [(2, 2), (3, 3)] [] ?_ (Stop.iter S (fun s1 => ⟨[(2, .c (.ref 2 0)), (3, .c (.ref 3 0)), (7, .c (.d (.int .i64 s1.1))), (27, .agg [.d (.int .i64 x9), .d (.int .i64 x10), .d (.int .i64 x11), .d (.int .i64 x12)]), (28, .c (.d (.int .i64 s1.2)))], [(2, [.d (encF 4 d_IIII x0), .d (encF 5 d_IIIII x1), .d (encF 3 d_III x2), .d (encF 2 d_II x3), .d (.int .i64 x4), .d (.int .i64 x5), .d (.int .i64 x6), .d (.int .i64 x7)]), (3, [.d (.int .i64 x9), .d (.int .i64 x10), .d (.int .i64 x11), .d (.int .i64 x12), .d (.int .i64 x13), .d (.int .i64 x14), .d (.int .i64 x8)])], []⟩) (b22_1 x0 x1 x2 x3 x4 x5 x6 x7 x9 x10 x11 x12 x8) (fun q => q = r) hr rfl ?_)
  ·exact lf
  ·intro s1 hr
   unfold b22_1 at hr
   refine S.gx [7] ?_
   repeat refine gA ?_
   refine ⟨?_, ?_⟩ <;> intro hc
   ·have hr := ifP1 hr hc
    repeat refine gA ?_
    by_cases hs10 : s1.2 = 0
    ·rw [if_pos hs10] at hr
     simp only [hs10]
     refine S.gx [] ?_
     repeat refine gA ?_
     obtain ⟨v11, hv11, hr⟩ := of_bind1 hr
     try simp only [hv11, oG, oI, true_and, and_assoc]
     repeat refine gA ?_
     refine S.sees [2, 3, 7, 27, 28] [(2, 2), (3, 3)] [] ?_ hr
     exact lf
    ·rw [if_neg hs10] at hr
     by_cases hs8 : s1.2 = 1
     ·rw [if_pos hs8] at hr
      simp only [hs8]
      refine S.gx [] ?_
      repeat refine gA ?_
      obtain ⟨v9, hv9, hr⟩ := of_bind1 hr
      try simp only [hv9, oG, oI, true_and, and_assoc]
      repeat refine gA ?_
      refine S.sees [2, 3, 7, 27, 28] [(2, 2), (3, 3)] [] ?_ hr
      exact lf
     ·rw [if_neg hs8] at hr
      by_cases hs6 : s1.2 = 2
      ·rw [if_pos hs6] at hr
       simp only [hs6]
       refine S.gx [] ?_
       repeat refine gA ?_
       obtain ⟨v7, hv7, hr⟩ := of_bind1 hr
       try simp only [hv7, oG, oI, true_and, and_assoc]
       repeat refine gA ?_
       refine S.sees [2, 3, 7, 27, 28] [(2, 2), (3, 3)] [] ?_ hr
       exact lf
      ·rw [if_neg hs6] at hr
       by_cases hs4 : s1.2 = 3
       ·rw [if_pos hs4] at hr
        simp only [hs4]
        refine S.gx [] ?_
        repeat refine gA ?_
        obtain ⟨v5, hv5, hr⟩ := of_bind1 hr
        try simp only [hv5, oG, oI, true_and, and_assoc]
        repeat refine gA ?_
        refine S.sees [2, 3, 7, 27, 28] [(2, 2), (3, 3)] [] ?_ hr
        exact lf
       ·rw [if_neg hs4] at hr
        first | cases hr | exact hr.elim
   ·have hr := ifN1 hr hc
    repeat refine gA ?_
    have hr := of_out0 hr
    repeat refine gA ?_
    cases hr
    exact lf
theorem f22 : FnFact Tryz.prog 22 T22.sp := ⟨⟨Tryz.f22, Tryz.func22, by decide, rfl⟩, v22⟩
end

/- martensite/steel.shares -/
def r78 (x0 : Int) (x1 : Int) (x2 : Int) (x3 : Int) (x4 : Int) (x5 : Int) (x6 : Int) (x7 : Int) (x8 : Int) (x9 : Int) (x10 : Int) (x11 : Int) (x12 : Int) (x13 : Int) : Option (Int × Int × Int × Int × Int × Int × Int × Int) :=
  some (x0, x1, x2, x3, x4, x5, x6, x7)
def T78 : TSpec qA25 := mkT qE25 qd25 (fun ⟨x0, x1, x2, x3, x4, x5, x6, x7, x8, x9, x10, x11, x12, x13⟩ => r78 x0 x1 x2 x3 x4 x5 x6 x7 x8 x9 x10 x11 x12 x13) qu12 false
theorem TP78 (c0 c1 c2 c3 c4 c5 c6 c7 c8 c9 c10 c11 c12 c13 : D) : T78.sp.pre [.agg [c0, c1, c2, c3, c4, c5, c6, c7, c8, c9, c10, c11, c12, c13]] = (eqvArgs (qt25 c0 c1 c2 c3 c4 c5 c6 c7 c8 c9 c10 c11 c12 c13) (qp25 qw25 c0 c1 c2 c3 c4 c5 c6 c7 c8 c9 c10 c11 c12 c13) ∧ (qp25 r78 c0 c1 c2 c3 c4 c5 c6 c7 c8 c9 c10 c11 c12 c13).isSome = true) := (rfl)
theorem TR78 (c0 c1 c2 c3 c4 c5 c6 c7 c8 c9 c10 c11 c12 c13 : D) : T78.sp.res [.agg [c0, c1, c2, c3, c4, c5, c6, c7, c8, c9, c10, c11, c12, c13]] = qu12 ((qp25 r78 c0 c1 c2 c3 c4 c5 c6 c7 c8 c9 c10 c11 c12 c13).getD default) := (rfl)
theorem TA78 : T78.sp.alias = false := (rfl)
def tb78 : Fns := lk []
theorem tb78_ok : FnsOk Tryz.prog tb78 := FnsOk.nil
attribute [go_sem] TP78 TR78 TA78
section
attribute [local go_sem] T78 Tryz.results78
theorem v78 : Valid Tryz.prog 78 T78.sp := by
 refine valid_t (fn := Tryz.f78) (n := 12) ty_ok tb78_ok Tryz.func78 rfl Tryz.ntmps78 ?_
 rintro ⟨x0, x1, x2, x3, x4, x5, x6, x7, x8, x9, x10, x11, x12, x13⟩ hx
 obtain ⟨r, hr⟩ := oE (show (r78 x0 x1 x2 x3 x4 x5 x6 x7 x8 x9 x10 x11 x12 x13).isSome = true from hx)
 have hres : T78.res (x0, x1, x2, x3, x4, x5, x6, x7, x8, x9, x10, x11, x12, x13) = qu12 r := by simp only [T78, mkT, hr, oG]
 refine ⟨nL rfl, fun stop S => ?_⟩
 rw [hres] at S
 unfold r78 at hr
 refine S.gx [] ?_
 repeat refine gA ?_
 cases hr
 exact lf
theorem f78 : FnFact Tryz.prog 78 T78.sp := ⟨⟨Tryz.f78, Tryz.func78, by decide, rfl⟩, v78⟩
end

/- martensite/steel.CheckBox -/
def r49 (x7 : Int) (x0 : Int) (x8 : Int) (x1 : Int) (x9 : Int) (x2 : Int) (x10 : Int) (x3 : Int) (x11 : Int) (x4 : Int) (x12 : Int) (x5 : Int) (x13 : Int) (x6 : Int) : Option (Int) :=
  (r68 x7 0 1000000).bind fun v1 =>
   if v1 = true → (r68 x0 0 1000000).isSome = true then
    (r51 (v1 && ((r68 x0 0 1000000).getD default)) 2).bind fun v2 =>
     (r51 (decide (x7 ≤ x0)) 9).bind fun v3 =>
      (r44 [v2, v3]).bind fun v4 =>
       if (v4 != 0) = true then
        some v4
        else (r68 x8 0 1000000).bind fun v5 =>
         if v5 = true → (r68 x1 0 1000000).isSome = true then
          (r51 (v5 && ((r68 x1 0 1000000).getD default)) 2).bind fun v6 =>
           (r51 (decide (x8 ≤ x1)) 9).bind fun v7 =>
            (r44 [v6, v7]).bind fun v8 =>
             if (v8 != 0) = true then
              some v8
              else (r68 x9 0 1000000).bind fun v9 =>
               if v9 = true → (r68 x2 0 1000000).isSome = true then
                (r51 (v9 && ((r68 x2 0 1000000).getD default)) 2).bind fun v10 =>
                 (r51 (decide (x9 ≤ x2)) 9).bind fun v11 =>
                  (r44 [v10, v11]).bind fun v12 =>
                   if (v12 != 0) = true then
                    some v12
                    else (r68 x10 0 1000000).bind fun v13 =>
                     if v13 = true → (r68 x3 0 1000000).isSome = true then
                      (r51 (v13 && ((r68 x3 0 1000000).getD default)) 2).bind fun v14 =>
                       (r51 (decide (x10 ≤ x3)) 9).bind fun v15 =>
                        (r44 [v14, v15]).bind fun v16 =>
                         if (v16 != 0) = true then
                          some v16
                          else (r68 x11 0 1000000).bind fun v17 =>
                           if v17 = true → (r68 x4 0 1000000).isSome = true then
                            (r51 (v17 && ((r68 x4 0 1000000).getD default)) 2).bind fun v18 =>
                             (r51 (decide (x11 ≤ x4)) 9).bind fun v19 =>
                              (r44 [v18, v19]).bind fun v20 =>
                               if (v20 != 0) = true then
                                some v20
                                else (r68 x12 0 100000).bind fun v21 =>
                                 if v21 = true → (r68 x5 0 100000).isSome = true then
                                  (r51 (v21 && ((r68 x5 0 100000).getD default)) 2).bind fun v22 =>
                                   (r51 (decide (x12 ≤ x5)) 9).bind fun v23 =>
                                    (r44 [v22, v23]).bind fun v24 =>
                                     if (v24 != 0) = true then
                                      some v24
                                      else (r68 x13 0 1000000).bind fun v25 =>
                                       if v25 = true → (r68 x6 0 1000000).isSome = true then
                                        (r51 (v25 && ((r68 x6 0 1000000).getD default)) 2).bind fun v26 =>
                                         (r51 (decide (x13 ≤ x6)) 9).bind fun v27 =>
                                          (r44 [v26, v27]).bind fun v28 =>
                                           if (v28 != 0) = true then
                                            some v28
                                            else (r78 x7 x0 x8 x1 x9 x2 x10 x3 x11 x4 x12 x5 x13 x6).bind fun v29 =>
                                             (r68 1000000 (IntKind.i64.wrap ((IntKind.i64.wrap ((IntKind.i64.wrap ((IntKind.i64.wrap (0 + v29.1)) + v29.2.2.1)) + v29.2.2.2.2.1)) + v29.2.2.2.2.2.2.1)) (IntKind.i64.wrap ((IntKind.i64.wrap ((IntKind.i64.wrap ((IntKind.i64.wrap (0 + v29.2.1)) + v29.2.2.2.1)) + v29.2.2.2.2.2.1)) + v29.2.2.2.2.2.2.2))).bind fun v30 =>
                                              (r51 v30 12).bind fun v31 =>
                                               some v31
                                        else none
                                  else none
                            else none
                      else none
                else none
          else none
    else none
def T49 : TSpec qA25 := mkT qE25 qd25 (fun ⟨x7, x0, x8, x1, x9, x2, x10, x3, x11, x4, x12, x5, x13, x6⟩ => r49 x7 x0 x8 x1 x9 x2 x10 x3 x11 x4 x12 x5 x13 x6) qu4 false
theorem TP49 (c0 c1 c2 c3 c4 c5 c6 c7 c8 c9 c10 c11 c12 c13 : D) : T49.sp.pre [.agg [c0, c1, c2, c3, c4, c5, c6, c7, c8, c9, c10, c11, c12, c13]] = (eqvArgs (qt25 c0 c1 c2 c3 c4 c5 c6 c7 c8 c9 c10 c11 c12 c13) (qp25 qw25 c0 c1 c2 c3 c4 c5 c6 c7 c8 c9 c10 c11 c12 c13) ∧ (qp25 r49 c0 c1 c2 c3 c4 c5 c6 c7 c8 c9 c10 c11 c12 c13).isSome = true) := (rfl)
theorem TR49 (c0 c1 c2 c3 c4 c5 c6 c7 c8 c9 c10 c11 c12 c13 : D) : T49.sp.res [.agg [c0, c1, c2, c3, c4, c5, c6, c7, c8, c9, c10, c11, c12, c13]] = qu4 ((qp25 r49 c0 c1 c2 c3 c4 c5 c6 c7 c8 c9 c10 c11 c12 c13).getD default) := (rfl)
theorem TA49 : T49.sp.alias = false := (rfl)
def tb49 : Fns := lk [(44, T44.sp), (51, T51.sp), (68, T68.sp), (78, T78.sp)]
theorem tb49_ok : FnsOk Tryz.prog tb49 := .cons f44 (.cons f51 (.cons f68 (.cons f78 (FnsOk.nil))))
theorem tb49_44 : tb49 44 = some T44.sp := rfl
theorem tb49_51 : tb49 51 = some T51.sp := rfl
theorem tb49_68 : tb49 68 = some T68.sp := rfl
theorem tb49_78 : tb49 78 = some T78.sp := rfl
theorem lt49_0 : (decide ((0 : Int) < 7)) = true := by first | rfl | decide | simp
theorem lt49_1 : (IntKind.i64.wrap (0 + 1)) = 1 := by first | rfl | decide | simp
theorem lt49_2 : (decide ((1 : Int) < 7)) = true := by first | rfl | decide | simp
theorem lt49_3 : (((1 : Int) = 0 ∨ (0 : Int) < 1)) = True := by first | rfl | decide | simp
theorem lt49_4 : (IntKind.i64.wrap (1 + 1)) = 2 := by first | rfl | decide | simp
theorem lt49_5 : (decide ((2 : Int) < 7)) = true := by first | rfl | decide | simp
theorem lt49_6 : (((2 : Int) = 0 ∨ (0 : Int) < 2)) = True := by first | rfl | decide | simp
theorem lt49_7 : (IntKind.i64.wrap (2 + 1)) = 3 := by first | rfl | decide | simp
theorem lt49_8 : (decide ((3 : Int) < 7)) = true := by first | rfl | decide | simp
theorem lt49_9 : (((3 : Int) = 0 ∨ (0 : Int) < 3)) = True := by first | rfl | decide | simp
theorem lt49_10 : (IntKind.i64.wrap (3 + 1)) = 4 := by first | rfl | decide | simp
theorem lt49_11 : (decide ((4 : Int) < 7)) = true := by first | rfl | decide | simp
theorem lt49_12 : (((4 : Int) = 0 ∨ (0 : Int) < 4)) = True := by first | rfl | decide | simp
theorem lt49_13 : (IntKind.i64.wrap (4 + 1)) = 5 := by first | rfl | decide | simp
theorem lt49_14 : (decide ((5 : Int) < 7)) = true := by first | rfl | decide | simp
theorem lt49_15 : (((5 : Int) = 0 ∨ (0 : Int) < 5)) = True := by first | rfl | decide | simp
theorem lt49_16 : (IntKind.i64.wrap (5 + 1)) = 6 := by first | rfl | decide | simp
theorem lt49_17 : (decide ((6 : Int) < 7)) = true := by first | rfl | decide | simp
theorem lt49_18 : (((6 : Int) = 0 ∨ (0 : Int) < 6)) = True := by first | rfl | decide | simp
theorem lt49_19 : (IntKind.i64.wrap (6 + 1)) = 7 := by first | rfl | decide | simp
theorem lt49_20 : (decide ((7 : Int) < 7)) = false := by first | rfl | decide | simp
theorem lt49_21 : (decide ((0 : Int) < 4)) = true := by first | rfl | decide | simp
theorem lt49_22 : (decide ((1 : Int) < 4)) = true := by first | rfl | decide | simp
theorem lt49_23 : (decide ((2 : Int) < 4)) = true := by first | rfl | decide | simp
theorem lt49_24 : (decide ((3 : Int) < 4)) = true := by first | rfl | decide | simp
theorem lt49_25 : (decide ((4 : Int) < 4)) = false := by first | rfl | decide | simp
attribute [go_sem] TP49 TR49 TA49
section
attribute [local go_sem] T49 tb49_44 tb49_51 tb49_68 tb49_78 Tryz.results49 Tryz.results77 lt49_0 lt49_1 lt49_2 lt49_3 lt49_4 lt49_5 lt49_6 lt49_7 lt49_8 lt49_9 lt49_10 lt49_11 lt49_12 lt49_13 lt49_14 lt49_15 lt49_16 lt49_17 lt49_18 lt49_19 lt49_20 lt49_21 lt49_22 lt49_23 lt49_24 lt49_25
theorem v49 : Valid Tryz.prog 49 T49.sp := by
 refine valid_t (fn := Tryz.f49) (n := 74) ty_ok tb49_ok Tryz.func49 rfl Tryz.ntmps49 ?_
 rintro ⟨x7, x0, x8, x1, x9, x2, x10, x3, x11, x4, x12, x5, x13, x6⟩ hx
 obtain ⟨r, hr⟩ := oE (show (r49 x7 x0 x8 x1 x9 x2 x10 x3 x11 x4 x12 x5 x13 x6).isSome = true from hx)
 have hres : T49.res (x7, x0, x8, x1, x9, x2, x10, x3, x11, x4, x12, x5, x13, x6) = qu4 r := by simp only [T49, mkT, hr, oG]
 refine ⟨nL rfl, fun stop S => ?_⟩
 rw [hres] at S
 unfold r49 at hr
 refine S.gx [2, 6] ?_
 repeat refine gA ?_
 refine S.inl 0 [1, 3] [] Tryz.func77 (by decide) rfl Tryz.ntmps77 (fun cx e => drawn_ok ty_ok tb49_ok cx e) (some 11) rfl rfl rfl rfl (nL rfl) (nL rfl) ?_
 refine gs ?_
 repeat refine gA ?_
 intro stop1 S1
 refine S1.gx [] ?_
 repeat refine gA ?_
 refine S.gx [2, 6] ?_
 repeat refine gA ?_
 refine S.lp ?_
 refine S.gx [2, 6] ?_
 obtain ⟨v1, hv1, hr⟩ := of_bind0 hr
 obtain ⟨hg38, hr⟩ := of_guard0 hr
 obtain ⟨v2, hv2, hr⟩ := of_bind0 hr
 obtain ⟨v3, hv3, hr⟩ := of_bind0 hr
 obtain ⟨v4, hv4, hr⟩ := of_bind0 hr
 try simp only [hv1, hv2, hv3, hv4, Option.getD_some, Option.isSome_some, true_and, and_assoc]
 repeat (first | refine gG hg38 ?_ | refine gA ?_ | refine gB ?_)
 refine S.prune [1, 3, 6, 11, 12] ?_
 refine S.gx [2] ?_
 repeat refine gA ?_
 refine ⟨?_, ?_⟩ <;> intro hc
 ·have hr := ifP hr hc
  repeat refine gA ?_
  cases hr
  exact lf
 ·have hr := ifN hr hc
  repeat refine gA ?_
  refine S.lp ?_
  refine S.gx [2, 6] ?_
  obtain ⟨v5, hv5, hr⟩ := of_bind0 hr
  obtain ⟨hg37, hr⟩ := of_guard0 hr
  obtain ⟨v6, hv6, hr⟩ := of_bind0 hr
  obtain ⟨v7, hv7, hr⟩ := of_bind0 hr
  obtain ⟨v8, hv8, hr⟩ := of_bind0 hr
  try simp only [hv5, hv6, hv7, hv8, Option.getD_some, Option.isSome_some, true_and, and_assoc]
  repeat (first | refine gG hg37 ?_ | refine gA ?_ | refine gB ?_)
  refine S.prune [1, 3, 6, 11, 12] ?_
  refine S.gx [2] ?_
  repeat refine gA ?_
  refine ⟨?_, ?_⟩ <;> intro hc
  ·have hr := ifP hr hc
   repeat refine gA ?_
   cases hr
   exact lf
  ·have hr := ifN hr hc
   repeat refine gA ?_
   refine S.lp ?_
   refine S.gx [2, 6] ?_
   obtain ⟨v9, hv9, hr⟩ := of_bind0 hr
   obtain ⟨hg36, hr⟩ := of_guard0 hr
   obtain ⟨v10, hv10, hr⟩ := of_bind0 hr
   obtain ⟨v11, hv11, hr⟩ := of_bind0 hr
   obtain ⟨v12, hv12, hr⟩ := of_bind0 hr
   try simp only [hv9, hv10, hv11, hv12, Option.getD_some, Option.isSome_some, true_and, and_assoc]
   repeat (first | refine gG hg36 ?_ | refine gA ?_ | refine gB ?_)
   refine S.prune [1, 3, 6, 11, 12] ?_
   refine S.gx [2] ?_
   repeat refine gA ?_
   refine ⟨?_, ?_⟩ <;> intro hc
   ·have hr := ifP hr hc
    repeat refine gA ?_
    cases hr
    exact lf
   ·have hr := ifN hr hc
    repeat refine gA ?_
    refine S.lp ?_
    refine S.gx [2, 6] ?_
    obtain ⟨v13, hv13, hr⟩ := of_bind0 hr
    obtain ⟨hg35, hr⟩ := of_guard0 hr
    obtain ⟨v14, hv14, hr⟩ := of_bind0 hr
    obtain ⟨v15, hv15, hr⟩ := of_bind0 hr
    obtain ⟨v16, hv16, hr⟩ := of_bind0 hr
    try simp only [hv13, hv14, hv15, hv16, Option.getD_some, Option.isSome_some, true_and, and_assoc]
    repeat (first | refine gG hg35 ?_ | refine gA ?_ | refine gB ?_)
    refine S.prune [1, 3, 6, 11, 12] ?_
    refine S.gx [2] ?_
    repeat refine gA ?_
    refine ⟨?_, ?_⟩ <;> intro hc
    ·have hr := ifP hr hc
     repeat refine gA ?_
     cases hr
     exact lf
    ·have hr := ifN hr hc
     repeat refine gA ?_
     refine S.lp ?_
     refine S.gx [2, 6] ?_
     obtain ⟨v17, hv17, hr⟩ := of_bind0 hr
     obtain ⟨hg34, hr⟩ := of_guard0 hr
     obtain ⟨v18, hv18, hr⟩ := of_bind0 hr
     obtain ⟨v19, hv19, hr⟩ := of_bind0 hr
     obtain ⟨v20, hv20, hr⟩ := of_bind0 hr
     try simp only [hv17, hv18, hv19, hv20, Option.getD_some, Option.isSome_some, true_and, and_assoc]
     repeat (first | refine gG hg34 ?_ | refine gA ?_ | refine gB ?_)
     refine S.prune [1, 3, 6, 11, 12] ?_
     refine S.gx [2] ?_
     repeat refine gA ?_
     refine ⟨?_, ?_⟩ <;> intro hc
     ·have hr := ifP hr hc
      repeat refine gA ?_
      cases hr
      exact lf
     ·have hr := ifN hr hc
      repeat refine gA ?_
      refine S.lp ?_
      refine S.gx [2, 6] ?_
      obtain ⟨v21, hv21, hr⟩ := of_bind0 hr
      obtain ⟨hg33, hr⟩ := of_guard0 hr
      obtain ⟨v22, hv22, hr⟩ := of_bind0 hr
      obtain ⟨v23, hv23, hr⟩ := of_bind0 hr
      obtain ⟨v24, hv24, hr⟩ := of_bind0 hr
      try simp only [hv21, hv22, hv23, hv24, Option.getD_some, Option.isSome_some, true_and, and_assoc]
      repeat (first | refine gG hg33 ?_ | refine gA ?_ | refine gB ?_)
      refine S.prune [1, 3, 6, 11, 12] ?_
      refine S.gx [2] ?_
      repeat refine gA ?_
      refine ⟨?_, ?_⟩ <;> intro hc
      ·have hr := ifP hr hc
       repeat refine gA ?_
       cases hr
       exact lf
      ·have hr := ifN hr hc
       repeat refine gA ?_
       refine S.lp ?_
       refine S.gx [2, 6] ?_
       obtain ⟨v25, hv25, hr⟩ := of_bind0 hr
       obtain ⟨hg32, hr⟩ := of_guard0 hr
       obtain ⟨v26, hv26, hr⟩ := of_bind0 hr
       obtain ⟨v27, hv27, hr⟩ := of_bind0 hr
       obtain ⟨v28, hv28, hr⟩ := of_bind0 hr
       try simp only [hv25, hv26, hv27, hv28, Option.getD_some, Option.isSome_some, true_and, and_assoc]
       repeat (first | refine gG hg32 ?_ | refine gA ?_ | refine gB ?_)
       refine S.prune [1, 3, 6, 11, 12] ?_
       refine S.gx [2] ?_
       repeat refine gA ?_
       refine ⟨?_, ?_⟩ <;> intro hc
       ·have hr := ifP hr hc
        repeat refine gA ?_
        cases hr
        exact lf
       ·have hr := ifN hr hc
        repeat refine gA ?_
        refine S.lp ?_
        refine S.gx [2, 6] ?_
        obtain ⟨v29, hv29, hr⟩ := of_bind0 hr
        try simp only [hv29, oG, oI, true_and, and_assoc]
        repeat refine gA ?_
        refine S.lp ?_
        refine S.gx [2, 6] ?_
        repeat refine gA ?_
        refine S.lp ?_
        refine S.gx [2, 6] ?_
        repeat refine gA ?_
        refine S.lp ?_
        refine S.gx [2, 6] ?_
        repeat refine gA ?_
        refine S.lp ?_
        refine S.gx [2, 6] ?_
        repeat refine gA ?_
        refine S.lp ?_
        refine S.gx [2, 6] ?_
        obtain ⟨v30, hv30, hr⟩ := of_bind0 hr
        obtain ⟨v31, hv31, hr⟩ := of_bind0 hr
        try simp only [hv30, hv31, Option.getD_some, Option.isSome_some, true_and, and_assoc]
        repeat refine gA ?_
        cases hr
        exact lf
theorem f49 : FnFact Tryz.prog 49 T49.sp := ⟨⟨Tryz.f49, Tryz.func49, by decide, rfl⟩, v49⟩
end

/- martensite/steel.filled -/
def b79_2 (x0 : Int) (x4 : Int) (x1 : Int) (x5 : Int) (x2 : Int) (x6 : Int) (x3 : Int) (x7 : Int) (x8 : Int) (x9 : Int) (x10 : Int) (x11 : Int) : (Int × Int × Int × Int × Int × Int × Int) → Ctl (Int × Int × Int × Int × Int × Int × Int) (Int) := fun s2 =>
  if (decide (s2.2.2.2.2.2.2 < 4)) = true then
   if s2.2.2.2.2.2.2 = 0 then
    if s2.2.2.1 = 0 then
     .next (IntKind.i64.wrap (s2.1 - (if IntKind.i64.wrap (x4 - x0) < s2.1 then IntKind.i64.wrap (x4 - x0) else s2.1)), IntKind.i64.wrap (s2.2.1 + (IntKind.i64.wrap ((if IntKind.i64.wrap (x4 - x0) < s2.1 then IntKind.i64.wrap (x4 - x0) else s2.1) * x8))), 0, s2.2.2.2.1, s2.2.2.2.2.1, s2.2.2.2.2.2.1, 1)
     else if s2.2.2.1 = 1 then
      .next (IntKind.i64.wrap (s2.1 - (if IntKind.i64.wrap (x5 - x1) < s2.1 then IntKind.i64.wrap (x5 - x1) else s2.1)), IntKind.i64.wrap (s2.2.1 + (IntKind.i64.wrap ((if IntKind.i64.wrap (x5 - x1) < s2.1 then IntKind.i64.wrap (x5 - x1) else s2.1) * x9))), 1, s2.2.2.2.1, s2.2.2.2.2.1, s2.2.2.2.2.2.1, 1)
      else if s2.2.2.1 = 2 then
       .next (IntKind.i64.wrap (s2.1 - (if IntKind.i64.wrap (x6 - x2) < s2.1 then IntKind.i64.wrap (x6 - x2) else s2.1)), IntKind.i64.wrap (s2.2.1 + (IntKind.i64.wrap ((if IntKind.i64.wrap (x6 - x2) < s2.1 then IntKind.i64.wrap (x6 - x2) else s2.1) * x10))), 2, s2.2.2.2.1, s2.2.2.2.2.1, s2.2.2.2.2.2.1, 1)
       else if s2.2.2.1 = 3 then
        .next (IntKind.i64.wrap (s2.1 - (if IntKind.i64.wrap (x7 - x3) < s2.1 then IntKind.i64.wrap (x7 - x3) else s2.1)), IntKind.i64.wrap (s2.2.1 + (IntKind.i64.wrap ((if IntKind.i64.wrap (x7 - x3) < s2.1 then IntKind.i64.wrap (x7 - x3) else s2.1) * x11))), 3, s2.2.2.2.1, s2.2.2.2.2.1, s2.2.2.2.2.2.1, 1)
        else .out none
    else if s2.2.2.2.2.2.2 = 1 then
     if s2.2.2.2.1 = 0 then
      .next (IntKind.i64.wrap (s2.1 - (if IntKind.i64.wrap (x4 - x0) < s2.1 then IntKind.i64.wrap (x4 - x0) else s2.1)), IntKind.i64.wrap (s2.2.1 + (IntKind.i64.wrap ((if IntKind.i64.wrap (x4 - x0) < s2.1 then IntKind.i64.wrap (x4 - x0) else s2.1) * x8))), s2.2.2.1, 0, s2.2.2.2.2.1, s2.2.2.2.2.2.1, 2)
      else if s2.2.2.2.1 = 1 then
       .next (IntKind.i64.wrap (s2.1 - (if IntKind.i64.wrap (x5 - x1) < s2.1 then IntKind.i64.wrap (x5 - x1) else s2.1)), IntKind.i64.wrap (s2.2.1 + (IntKind.i64.wrap ((if IntKind.i64.wrap (x5 - x1) < s2.1 then IntKind.i64.wrap (x5 - x1) else s2.1) * x9))), s2.2.2.1, 1, s2.2.2.2.2.1, s2.2.2.2.2.2.1, 2)
       else if s2.2.2.2.1 = 2 then
        .next (IntKind.i64.wrap (s2.1 - (if IntKind.i64.wrap (x6 - x2) < s2.1 then IntKind.i64.wrap (x6 - x2) else s2.1)), IntKind.i64.wrap (s2.2.1 + (IntKind.i64.wrap ((if IntKind.i64.wrap (x6 - x2) < s2.1 then IntKind.i64.wrap (x6 - x2) else s2.1) * x10))), s2.2.2.1, 2, s2.2.2.2.2.1, s2.2.2.2.2.2.1, 2)
        else if s2.2.2.2.1 = 3 then
         .next (IntKind.i64.wrap (s2.1 - (if IntKind.i64.wrap (x7 - x3) < s2.1 then IntKind.i64.wrap (x7 - x3) else s2.1)), IntKind.i64.wrap (s2.2.1 + (IntKind.i64.wrap ((if IntKind.i64.wrap (x7 - x3) < s2.1 then IntKind.i64.wrap (x7 - x3) else s2.1) * x11))), s2.2.2.1, 3, s2.2.2.2.2.1, s2.2.2.2.2.2.1, 2)
         else .out none
     else if s2.2.2.2.2.2.2 = 2 then
      if s2.2.2.2.2.1 = 0 then
       .next (IntKind.i64.wrap (s2.1 - (if IntKind.i64.wrap (x4 - x0) < s2.1 then IntKind.i64.wrap (x4 - x0) else s2.1)), IntKind.i64.wrap (s2.2.1 + (IntKind.i64.wrap ((if IntKind.i64.wrap (x4 - x0) < s2.1 then IntKind.i64.wrap (x4 - x0) else s2.1) * x8))), s2.2.2.1, s2.2.2.2.1, 0, s2.2.2.2.2.2.1, 3)
       else if s2.2.2.2.2.1 = 1 then
        .next (IntKind.i64.wrap (s2.1 - (if IntKind.i64.wrap (x5 - x1) < s2.1 then IntKind.i64.wrap (x5 - x1) else s2.1)), IntKind.i64.wrap (s2.2.1 + (IntKind.i64.wrap ((if IntKind.i64.wrap (x5 - x1) < s2.1 then IntKind.i64.wrap (x5 - x1) else s2.1) * x9))), s2.2.2.1, s2.2.2.2.1, 1, s2.2.2.2.2.2.1, 3)
        else if s2.2.2.2.2.1 = 2 then
         .next (IntKind.i64.wrap (s2.1 - (if IntKind.i64.wrap (x6 - x2) < s2.1 then IntKind.i64.wrap (x6 - x2) else s2.1)), IntKind.i64.wrap (s2.2.1 + (IntKind.i64.wrap ((if IntKind.i64.wrap (x6 - x2) < s2.1 then IntKind.i64.wrap (x6 - x2) else s2.1) * x10))), s2.2.2.1, s2.2.2.2.1, 2, s2.2.2.2.2.2.1, 3)
         else if s2.2.2.2.2.1 = 3 then
          .next (IntKind.i64.wrap (s2.1 - (if IntKind.i64.wrap (x7 - x3) < s2.1 then IntKind.i64.wrap (x7 - x3) else s2.1)), IntKind.i64.wrap (s2.2.1 + (IntKind.i64.wrap ((if IntKind.i64.wrap (x7 - x3) < s2.1 then IntKind.i64.wrap (x7 - x3) else s2.1) * x11))), s2.2.2.1, s2.2.2.2.1, 3, s2.2.2.2.2.2.1, 3)
          else .out none
      else if s2.2.2.2.2.2.2 = 3 then
       if s2.2.2.2.2.2.1 = 0 then
        .next (IntKind.i64.wrap (s2.1 - (if IntKind.i64.wrap (x4 - x0) < s2.1 then IntKind.i64.wrap (x4 - x0) else s2.1)), IntKind.i64.wrap (s2.2.1 + (IntKind.i64.wrap ((if IntKind.i64.wrap (x4 - x0) < s2.1 then IntKind.i64.wrap (x4 - x0) else s2.1) * x8))), s2.2.2.1, s2.2.2.2.1, s2.2.2.2.2.1, 0, 4)
        else if s2.2.2.2.2.2.1 = 1 then
         .next (IntKind.i64.wrap (s2.1 - (if IntKind.i64.wrap (x5 - x1) < s2.1 then IntKind.i64.wrap (x5 - x1) else s2.1)), IntKind.i64.wrap (s2.2.1 + (IntKind.i64.wrap ((if IntKind.i64.wrap (x5 - x1) < s2.1 then IntKind.i64.wrap (x5 - x1) else s2.1) * x9))), s2.2.2.1, s2.2.2.2.1, s2.2.2.2.2.1, 1, 4)
         else if s2.2.2.2.2.2.1 = 2 then
          .next (IntKind.i64.wrap (s2.1 - (if IntKind.i64.wrap (x6 - x2) < s2.1 then IntKind.i64.wrap (x6 - x2) else s2.1)), IntKind.i64.wrap (s2.2.1 + (IntKind.i64.wrap ((if IntKind.i64.wrap (x6 - x2) < s2.1 then IntKind.i64.wrap (x6 - x2) else s2.1) * x10))), s2.2.2.1, s2.2.2.2.1, s2.2.2.2.2.1, 2, 4)
          else if s2.2.2.2.2.2.1 = 3 then
           .next (IntKind.i64.wrap (s2.1 - (if IntKind.i64.wrap (x7 - x3) < s2.1 then IntKind.i64.wrap (x7 - x3) else s2.1)), IntKind.i64.wrap (s2.2.1 + (IntKind.i64.wrap ((if IntKind.i64.wrap (x7 - x3) < s2.1 then IntKind.i64.wrap (x7 - x3) else s2.1) * x11))), s2.2.2.1, s2.2.2.2.1, s2.2.2.2.2.1, 3, 4)
           else .out none
       else .out none
   else .out (some (IntKind.i64.wrap (s2.2.1.tdiv 1000000)))
def b79_1 (x0 : Int) (x4 : Int) (x1 : Int) (x5 : Int) (x2 : Int) (x6 : Int) (x3 : Int) (x7 : Int) (x8 : Int) (x9 : Int) (x10 : Int) (x11 : Int) (x12 : Int) (x13 : Int) (x14 : Int) (x15 : Int) : (Int × Int × Int) → Ctl (Int × Int × Int) (Int) := fun s1 =>
  if (decide (s1.2.2 < 4)) = true then
   if s1.2.2 = 0 then
    .next (IntKind.i64.wrap (s1.1 - x0), IntKind.i64.wrap (s1.2.1 + (IntKind.i64.wrap (x0 * x8))), 1)
    else if s1.2.2 = 1 then
     .next (IntKind.i64.wrap (s1.1 - x1), IntKind.i64.wrap (s1.2.1 + (IntKind.i64.wrap (x1 * x9))), 2)
     else if s1.2.2 = 2 then
      .next (IntKind.i64.wrap (s1.1 - x2), IntKind.i64.wrap (s1.2.1 + (IntKind.i64.wrap (x2 * x10))), 3)
      else if s1.2.2 = 3 then
       .next (IntKind.i64.wrap (s1.1 - x3), IntKind.i64.wrap (s1.2.1 + (IntKind.i64.wrap (x3 * x11))), 4)
       else .out none
   else .out (iterC (b79_2 x0 x4 x1 x5 x2 x6 x3 x7 x8 x9 x10 x11) 1000000000 (s1.1, s1.2.1, x12, x13, x14, x15, 0))
def r79 (x0 : Int) (x4 : Int) (x1 : Int) (x5 : Int) (x2 : Int) (x6 : Int) (x3 : Int) (x7 : Int) (x8 : Int) (x9 : Int) (x10 : Int) (x11 : Int) (x12 : Int) (x13 : Int) (x14 : Int) (x15 : Int) : Option (Int) :=
  iterC (b79_1 x0 x4 x1 x5 x2 x6 x3 x7 x8 x9 x10 x11 x12 x13 x14 x15) 1000000000 (1000000, 0, 0)
def T79 : TSpec qA26 := mkT qE26 qd26 (fun ⟨x0, x4, x1, x5, x2, x6, x3, x7, x8, x9, x10, x11, x12, x13, x14, x15⟩ => r79 x0 x4 x1 x5 x2 x6 x3 x7 x8 x9 x10 x11 x12 x13 x14 x15) qu4 false
theorem TP79 (c0 c1 c2 c3 c4 c5 c6 c7 c8 c9 c10 c11 c12 c13 c14 c15 : D) : T79.sp.pre [.agg [c0, c1, c2, c3, c4, c5, c6, c7], .agg [c8, c9, c10, c11], .agg [c12, c13, c14, c15]] = (eqvArgs (qt26 c0 c1 c2 c3 c4 c5 c6 c7 c8 c9 c10 c11 c12 c13 c14 c15) (qp26 qw26 c0 c1 c2 c3 c4 c5 c6 c7 c8 c9 c10 c11 c12 c13 c14 c15) ∧ (qp26 r79 c0 c1 c2 c3 c4 c5 c6 c7 c8 c9 c10 c11 c12 c13 c14 c15).isSome = true) := (rfl)
theorem TR79 (c0 c1 c2 c3 c4 c5 c6 c7 c8 c9 c10 c11 c12 c13 c14 c15 : D) : T79.sp.res [.agg [c0, c1, c2, c3, c4, c5, c6, c7], .agg [c8, c9, c10, c11], .agg [c12, c13, c14, c15]] = qu4 ((qp26 r79 c0 c1 c2 c3 c4 c5 c6 c7 c8 c9 c10 c11 c12 c13 c14 c15).getD default) := (rfl)
theorem TA79 : T79.sp.alias = false := (rfl)
def tb79 : Fns := lk []
theorem tb79_ok : FnsOk Tryz.prog tb79 := FnsOk.nil
theorem lt79_0 : (decide ((0 : Int) < 4)) = true := by first | rfl | decide | simp
theorem lt79_1 : (IntKind.i64.wrap (0 + 1)) = 1 := by first | rfl | decide | simp
theorem lt79_2 : (((3 : Int) = 0 ∨ (0 : Int) < 3)) = True := by first | rfl | decide | simp
theorem lt79_3 : (IntKind.i64.wrap (3 + 1)) = 4 := by first | rfl | decide | simp
theorem lt79_4 : (((2 : Int) = 0 ∨ (0 : Int) < 2)) = True := by first | rfl | decide | simp
theorem lt79_5 : (IntKind.i64.wrap (2 + 1)) = 3 := by first | rfl | decide | simp
theorem lt79_6 : (((1 : Int) = 0 ∨ (0 : Int) < 1)) = True := by first | rfl | decide | simp
theorem lt79_7 : (IntKind.i64.wrap (1 + 1)) = 2 := by first | rfl | decide | simp
attribute [go_sem] TP79 TR79 TA79
section
attribute [local go_sem] T79 Tryz.results79 lt79_0 lt79_1 lt79_2 lt79_3 lt79_4 lt79_5 lt79_6 lt79_7
theorem v79 : Valid Tryz.prog 79 T79.sp := by
 refine valid_t (fn := Tryz.f79) (n := 60) ty_ok tb79_ok Tryz.func79 rfl Tryz.ntmps79 ?_
 rintro ⟨x0, x4, x1, x5, x2, x6, x3, x7, x8, x9, x10, x11, x12, x13, x14, x15⟩ hx
 obtain ⟨r, hr⟩ := oE (show (r79 x0 x4 x1 x5 x2 x6 x3 x7 x8 x9 x10 x11 x12 x13 x14 x15).isSome = true from hx)
 have hres : T79.res (x0, x4, x1, x5, x2, x6, x3, x7, x8, x9, x10, x11, x12, x13, x14, x15) = qu4 r := by simp only [T79, mkT, hr, oG]
 refine ⟨nL rfl, fun stop S => ?_⟩
 rw [hres] at S
 unfold r79 at hr
 refine S.gx [4, 10, 11] ?_
 repeat refine gA ?_
 refine S.sees [3, 4, 5, 7, 8, 14, 15] [(3, 3), (4, 4), (5, 5)] [] ?_ (Stop.iter S (fun s1 => ⟨[(3, .c (.ref 3 0)), (4, .c (.ref 4 0)), (5, .c (.ref 5 0)), (7, .c (.d (.int .i64 s1.1))), (8, .c (.d (.int .i64 s1.2.1))), (14, .agg [.d (.int .i64 x0), .d (.int .i64 x4), .d (.int .i64 x1), .d (.int .i64 x5), .d (.int .i64 x2), .d (.int .i64 x6), .d (.int .i64 x3), .d (.int .i64 x7)]), (15, .c (.d (.int .i64 s1.2.2)))], [(3, [.d (.int .i64 x0), .d (.int .i64 x4), .d (.int .i64 x1), .d (.int .i64 x5), .d (.int .i64 x2), .d (.int .i64 x6), .d (.int .i64 x3), .d (.int .i64 x7)]), (4, [.d (.int .i64 x8), .d (.int .i64 x9), .d (.int .i64 x10), .d (.int .i64 x11)]), (5, [.d (.int .i64 x12), .d (.int .i64 x13), .d (.int .i64 x14), .d (.int .i64 x15)])], []⟩) (b79_1 x0 x4 x1 x5 x2 x6 x3 x7 x8 x9 x10 x11 x12 x13 x14 x15) (fun q => q = r) hr rfl ?_)
 ·exact lf
 ·intro s1 hr
  unfold b79_1 at hr
  refine S.gx [4, 10, 11] ?_
  repeat refine gA ?_
  refine ⟨?_, ?_⟩ <;> intro hc
  ·have hr := ifP1 hr hc
   repeat refine gA ?_
   by_cases hs4 : s1.2.2 = 0
   ·rw [if_pos hs4] at hr
    simp only [hs4]
    refine S.gx [10, 11] ?_
    repeat refine gA ?_
    refine S.sees [3, 4, 5, 7, 8, 14, 15] [(3, 3), (4, 4), (5, 5)] [] ?_ hr
    exact lf
   ·rw [if_neg hs4] at hr
    by_cases hs3 : s1.2.2 = 1
    ·rw [if_pos hs3] at hr
     simp only [hs3]
     refine S.gx [10, 11] ?_
     repeat refine gA ?_
     refine S.sees [3, 4, 5, 7, 8, 14, 15] [(3, 3), (4, 4), (5, 5)] [] ?_ hr
     exact lf
    ·rw [if_neg hs3] at hr
     by_cases hs2 : s1.2.2 = 2
     ·rw [if_pos hs2] at hr
      simp only [hs2]
      refine S.gx [10, 11] ?_
      repeat refine gA ?_
      refine S.sees [3, 4, 5, 7, 8, 14, 15] [(3, 3), (4, 4), (5, 5)] [] ?_ hr
      exact lf
     ·rw [if_neg hs2] at hr
      by_cases hs1 : s1.2.2 = 3
      ·rw [if_pos hs1] at hr
       simp only [hs1]
       refine S.gx [10, 11] ?_
       repeat refine gA ?_
       refine S.sees [3, 4, 5, 7, 8, 14, 15] [(3, 3), (4, 4), (5, 5)] [] ?_ hr
       exact lf
      ·rw [if_neg hs1] at hr
       first | cases hr | exact hr.elim
  ·have hr := ifN1 hr hc
   repeat refine gA ?_
   have hr := of_out0 hr
   repeat refine gA ?_
   refine S.sees [3, 4, 7, 8, 32, 33] [(3, 3), (4, 4)] [] ?_ (Stop.iter S (fun s2 => ⟨[(3, .c (.ref 3 0)), (4, .c (.ref 4 0)), (7, .c (.d (.int .i64 s2.1))), (8, .c (.d (.int .i64 s2.2.1))), (32, .agg [.d (.int .i64 s2.2.2.1), .d (.int .i64 s2.2.2.2.1), .d (.int .i64 s2.2.2.2.2.1), .d (.int .i64 s2.2.2.2.2.2.1)]), (33, .c (.d (.int .i64 s2.2.2.2.2.2.2)))], [(3, [.d (.int .i64 x0), .d (.int .i64 x4), .d (.int .i64 x1), .d (.int .i64 x5), .d (.int .i64 x2), .d (.int .i64 x6), .d (.int .i64 x3), .d (.int .i64 x7)]), (4, [.d (.int .i64 x8), .d (.int .i64 x9), .d (.int .i64 x10), .d (.int .i64 x11)])], []⟩) (b79_2 x0 x4 x1 x5 x2 x6 x3 x7 x8 x9 x10 x11) (fun q => q = r) hr rfl ?_)
   ·exact lf
   ·intro s2 hr
    unfold b79_2 at hr
    refine S.gx [4, 10, 11] ?_
    repeat refine gA ?_
    refine ⟨?_, ?_⟩ <;> intro hc
    ·have hr := ifP1 hr hc
     repeat refine gA ?_
     by_cases hs20 : s2.2.2.2.2.2.2 = 0
     ·rw [if_pos hs20] at hr
      simp only [hs20]
      refine S.gx [4, 11] ?_
      repeat refine gA ?_
      by_cases hs24 : s2.2.2.1 = 0
      ·rw [if_pos hs24] at hr
       simp only [hs24]
       refine S.gx [4, 10] ?_
       repeat refine gA ?_
       refine S.sees [3, 4, 7, 8, 32, 33] [(3, 3), (4, 4)] [] ?_ hr
       exact lf
      ·rw [if_neg hs24] at hr
       by_cases hs23 : s2.2.2.1 = 1
       ·rw [if_pos hs23] at hr
        simp only [hs23]
        refine S.gx [4, 10] ?_
        repeat refine gA ?_
        refine S.sees [3, 4, 7, 8, 32, 33] [(3, 3), (4, 4)] [] ?_ hr
        exact lf
       ·rw [if_neg hs23] at hr
        by_cases hs22 : s2.2.2.1 = 2
        ·rw [if_pos hs22] at hr
         simp only [hs22]
         refine S.gx [4, 10] ?_
         repeat refine gA ?_
         refine S.sees [3, 4, 7, 8, 32, 33] [(3, 3), (4, 4)] [] ?_ hr
         exact lf
        ·rw [if_neg hs22] at hr
         by_cases hs21 : s2.2.2.1 = 3
         ·rw [if_pos hs21] at hr
          simp only [hs21]
          refine S.gx [4, 10] ?_
          repeat refine gA ?_
          refine S.sees [3, 4, 7, 8, 32, 33] [(3, 3), (4, 4)] [] ?_ hr
          exact lf
         ·rw [if_neg hs21] at hr
          first | cases hr | exact hr.elim
     ·rw [if_neg hs20] at hr
      by_cases hs15 : s2.2.2.2.2.2.2 = 1
      ·rw [if_pos hs15] at hr
       simp only [hs15]
       refine S.gx [4, 11] ?_
       repeat refine gA ?_
       by_cases hs19 : s2.2.2.2.1 = 0
       ·rw [if_pos hs19] at hr
        simp only [hs19]
        refine S.gx [4, 10] ?_
        repeat refine gA ?_
        refine S.sees [3, 4, 7, 8, 32, 33] [(3, 3), (4, 4)] [] ?_ hr
        exact lf
       ·rw [if_neg hs19] at hr
        by_cases hs18 : s2.2.2.2.1 = 1
        ·rw [if_pos hs18] at hr
         simp only [hs18]
         refine S.gx [4, 10] ?_
         repeat refine gA ?_
         refine S.sees [3, 4, 7, 8, 32, 33] [(3, 3), (4, 4)] [] ?_ hr
         exact lf
        ·rw [if_neg hs18] at hr
         by_cases hs17 : s2.2.2.2.1 = 2
         ·rw [if_pos hs17] at hr
          simp only [hs17]
          refine S.gx [4, 10] ?_
          repeat refine gA ?_
          refine S.sees [3, 4, 7, 8, 32, 33] [(3, 3), (4, 4)] [] ?_ hr
          exact lf
         ·rw [if_neg hs17] at hr
          by_cases hs16 : s2.2.2.2.1 = 3
          ·rw [if_pos hs16] at hr
           simp only [hs16]
           refine S.gx [4, 10] ?_
           repeat refine gA ?_
           refine S.sees [3, 4, 7, 8, 32, 33] [(3, 3), (4, 4)] [] ?_ hr
           exact lf
          ·rw [if_neg hs16] at hr
           first | cases hr | exact hr.elim
      ·rw [if_neg hs15] at hr
       by_cases hs10 : s2.2.2.2.2.2.2 = 2
       ·rw [if_pos hs10] at hr
        simp only [hs10]
        refine S.gx [4, 11] ?_
        repeat refine gA ?_
        by_cases hs14 : s2.2.2.2.2.1 = 0
        ·rw [if_pos hs14] at hr
         simp only [hs14]
         refine S.gx [4, 10] ?_
         repeat refine gA ?_
         refine S.sees [3, 4, 7, 8, 32, 33] [(3, 3), (4, 4)] [] ?_ hr
         exact lf
        ·rw [if_neg hs14] at hr
         by_cases hs13 : s2.2.2.2.2.1 = 1
         ·rw [if_pos hs13] at hr
          simp only [hs13]
          refine S.gx [4, 10] ?_
          repeat refine gA ?_
          refine S.sees [3, 4, 7, 8, 32, 33] [(3, 3), (4, 4)] [] ?_ hr
          exact lf
         ·rw [if_neg hs13] at hr
          by_cases hs12 : s2.2.2.2.2.1 = 2
          ·rw [if_pos hs12] at hr
           simp only [hs12]
           refine S.gx [4, 10] ?_
           repeat refine gA ?_
           refine S.sees [3, 4, 7, 8, 32, 33] [(3, 3), (4, 4)] [] ?_ hr
           exact lf
          ·rw [if_neg hs12] at hr
           by_cases hs11 : s2.2.2.2.2.1 = 3
           ·rw [if_pos hs11] at hr
            simp only [hs11]
            refine S.gx [4, 10] ?_
            repeat refine gA ?_
            refine S.sees [3, 4, 7, 8, 32, 33] [(3, 3), (4, 4)] [] ?_ hr
            exact lf
           ·rw [if_neg hs11] at hr
            first | cases hr | exact hr.elim
       ·rw [if_neg hs10] at hr
        by_cases hs5 : s2.2.2.2.2.2.2 = 3
        ·rw [if_pos hs5] at hr
         simp only [hs5]
         refine S.gx [4, 11] ?_
         repeat refine gA ?_
         by_cases hs9 : s2.2.2.2.2.2.1 = 0
         ·rw [if_pos hs9] at hr
          simp only [hs9]
          refine S.gx [4, 10] ?_
          repeat refine gA ?_
          refine S.sees [3, 4, 7, 8, 32, 33] [(3, 3), (4, 4)] [] ?_ hr
          exact lf
         ·rw [if_neg hs9] at hr
          by_cases hs8 : s2.2.2.2.2.2.1 = 1
          ·rw [if_pos hs8] at hr
           simp only [hs8]
           refine S.gx [4, 10] ?_
           repeat refine gA ?_
           refine S.sees [3, 4, 7, 8, 32, 33] [(3, 3), (4, 4)] [] ?_ hr
           exact lf
          ·rw [if_neg hs8] at hr
           by_cases hs7 : s2.2.2.2.2.2.1 = 2
           ·rw [if_pos hs7] at hr
            simp only [hs7]
            refine S.gx [4, 10] ?_
            repeat refine gA ?_
            refine S.sees [3, 4, 7, 8, 32, 33] [(3, 3), (4, 4)] [] ?_ hr
            exact lf
           ·rw [if_neg hs7] at hr
            by_cases hs6 : s2.2.2.2.2.2.1 = 3
            ·rw [if_pos hs6] at hr
             simp only [hs6]
             refine S.gx [4, 10] ?_
             repeat refine gA ?_
             refine S.sees [3, 4, 7, 8, 32, 33] [(3, 3), (4, 4)] [] ?_ hr
             exact lf
            ·rw [if_neg hs6] at hr
             first | cases hr | exact hr.elim
        ·rw [if_neg hs5] at hr
         first | cases hr | exact hr.elim
    ·have hr := ifN1 hr hc
     repeat refine gA ?_
     have hr := of_out0 hr
     repeat refine gA ?_
     cases hr
     exact lf
theorem f79 : FnFact Tryz.prog 79 T79.sp := ⟨⟨Tryz.f79, Tryz.func79, by decide, rfl⟩, v79⟩
end

/- (martensite/steel.rules).band -/
def r50 (x0 : List (Int × Int × Int × Int)) (x1 : List (Int × Int × Int × Int × Int)) (x2 : List (Int × Int × Int)) (x3 : List (Int × Int)) (x4 : Int) (x5 : Int) (x6 : Int) (x7 : Int) (x10 : Int) (x11 : Int) (x12 : Int) (x13 : Int) (x14 : Int) (x15 : Int) (x16 : Int) (x17 : Int) (x18 : Int) (x19 : Int) (x20 : Int) (x21 : Int) (x8 : Int) (x9 : Int) : Option (Int × Int) :=
  (r78 x10 x11 x12 x13 x14 x15 x16 x17 x18 x19 x20 x21 x8 x9).bind fun v1 =>
   (r48 x0 x1 x2 x3 x4 x5 x6 x7 x9).bind fun v2 =>
    (r79 v1.1 v1.2.1 v1.2.2.1 v1.2.2.2.1 v1.2.2.2.2.1 v1.2.2.2.2.2.1 v1.2.2.2.2.2.2.1 v1.2.2.2.2.2.2.2 v2.1 v2.2.1 v2.2.2.1 v2.2.2.2 0 1 2 3).bind fun v3 =>
     (r48 x0 x1 x2 x3 x4 x5 x6 x7 x8).bind fun v4 =>
      (r79 v1.1 v1.2.1 v1.2.2.1 v1.2.2.2.1 v1.2.2.2.2.1 v1.2.2.2.2.2.1 v1.2.2.2.2.2.2.1 v1.2.2.2.2.2.2.2 v4.1 v4.2.1 v4.2.2.1 v4.2.2.2 3 2 1 0).bind fun v5 =>
       some (v3, v5)
def T50 : TSpec qA27 := mkT qE27 qd27 (fun ⟨x0, x1, x2, x3, x4, x5, x6, x7, x10, x11, x12, x13, x14, x15, x16, x17, x18, x19, x20, x21, x8, x9⟩ => r50 x0 x1 x2 x3 x4 x5 x6 x7 x10 x11 x12 x13 x14 x15 x16 x17 x18 x19 x20 x21 x8 x9) qu13 false
theorem TP50 (c0 c1 c2 c3 c4 c5 c6 c7 c8 c9 c10 c11 c12 c13 c14 c15 c16 c17 c18 c19 c20 c21 : D) : T50.sp.pre [.agg [c0, c1, c2, c3, c4, c5, c6, c7], .agg [c8, c9, c10, c11, c12, c13, c14, c15, c16, c17, c18, c19, c20, c21]] = (eqvArgs (qt27 c0 c1 c2 c3 c4 c5 c6 c7 c8 c9 c10 c11 c12 c13 c14 c15 c16 c17 c18 c19 c20 c21) (qp27 qw27 c0 c1 c2 c3 c4 c5 c6 c7 c8 c9 c10 c11 c12 c13 c14 c15 c16 c17 c18 c19 c20 c21) ∧ (qp27 r50 c0 c1 c2 c3 c4 c5 c6 c7 c8 c9 c10 c11 c12 c13 c14 c15 c16 c17 c18 c19 c20 c21).isSome = true) := (rfl)
theorem TR50 (c0 c1 c2 c3 c4 c5 c6 c7 c8 c9 c10 c11 c12 c13 c14 c15 c16 c17 c18 c19 c20 c21 : D) : T50.sp.res [.agg [c0, c1, c2, c3, c4, c5, c6, c7], .agg [c8, c9, c10, c11, c12, c13, c14, c15, c16, c17, c18, c19, c20, c21]] = qu13 ((qp27 r50 c0 c1 c2 c3 c4 c5 c6 c7 c8 c9 c10 c11 c12 c13 c14 c15 c16 c17 c18 c19 c20 c21).getD default) := (rfl)
theorem TA50 : T50.sp.alias = false := (rfl)
def tb50 : Fns := lk [(48, T48.sp), (78, T78.sp), (79, T79.sp)]
theorem tb50_ok : FnsOk Tryz.prog tb50 := .cons f48 (.cons f78 (.cons f79 (FnsOk.nil)))
theorem tb50_48 : tb50 48 = some T48.sp := rfl
theorem tb50_78 : tb50 78 = some T78.sp := rfl
theorem tb50_79 : tb50 79 = some T79.sp := rfl
attribute [go_sem] TP50 TR50 TA50
section
attribute [local go_sem] T50 tb50_48 tb50_78 tb50_79 Tryz.results50
theorem v50 : Valid Tryz.prog 50 T50.sp := by
 refine valid_t (fn := Tryz.f50) (n := 28) ty_ok tb50_ok Tryz.func50 rfl Tryz.ntmps50 ?_
 rintro ⟨x0, x1, x2, x3, x4, x5, x6, x7, x10, x11, x12, x13, x14, x15, x16, x17, x18, x19, x20, x21, x8, x9⟩ hx
 obtain ⟨r, hr⟩ := oE (show (r50 x0 x1 x2 x3 x4 x5 x6 x7 x10 x11 x12 x13 x14 x15 x16 x17 x18 x19 x20 x21 x8 x9).isSome = true from hx)
 have hres : T50.res (x0, x1, x2, x3, x4, x5, x6, x7, x10, x11, x12, x13, x14, x15, x16, x17, x18, x19, x20, x21, x8, x9) = qu13 r := by simp only [T50, mkT, hr, oG]
 refine ⟨nL rfl, fun stop S => ?_⟩
 rw [hres] at S
 unfold r50 at hr
 refine S.gx [] ?_
 obtain ⟨v1, hv1, hr⟩ := of_bind0 hr
 obtain ⟨v2, hv2, hr⟩ := of_bind0 hr
 obtain ⟨v3, hv3, hr⟩ := of_bind0 hr
 obtain ⟨v4, hv4, hr⟩ := of_bind0 hr
 obtain ⟨v5, hv5, hr⟩ := of_bind0 hr
 try simp only [hv1, hv2, hv3, hv4, hv5, Option.getD_some, Option.isSome_some, true_and, and_assoc]
 repeat refine gA ?_
 cases hr
 exact lf
theorem f50 : FnFact Tryz.prog 50 T50.sp := ⟨⟨Tryz.f50, Tryz.func50, by decide, rfl⟩, v50⟩
end
end Go.Proofs.YtdlogfepbkojkaaGreatDoor

/- Contracts of functions, written by wip/dec. -/
import Derived.Test.YtfkmbdfajpdjjaaDoorF00
import Derived.Test.YtfkmbdfajpdjjaaDoorF01
import Derived.Test.YtfkmbdfajpdjjaaDoorF02
set_option linter.unusedVariables false
set_option linter.unusedSimpArgs false
set_option maxHeartbeats 4000000
set_option maxRecDepth 20000
namespace Go.Proofs.YtfkmbdfajpdjjaaDoor
open Go.Abs
abbrev qA18 := Int × Int × Int × Int
def qw18 (a0 : Int) (a1 : Int) (a2 : Int) (a3 : Int) : List Arg := [.agg [.int .i64 a0, .int .i64 a1, .int .i64 a2], .ptr [.int .i64 a3]]
def qE18 : qA18 → List Arg := fun ⟨a0, a1, a2, a3⟩ => qw18 a0 a1 a2 a3
def qd18 (a : List Arg) : qA18 := (dInt (aCell a 0 0), dInt (aCell a 0 1), dInt (aCell a 0 2), dInt (aCell a 1 0))
def qp18 {β : Type} (f : Int → Int → Int → Int → β) (c0 c1 c2 c3 : D) : β := f (dInt c0) (dInt c1) (dInt c2) (dInt c3)
def qt18 (c0 c1 c2 c3 : D) : List Arg := [.agg [c0, c1, c2], .ptr [c3]]
attribute [go_sem] qw18 qp18 qt18 qE18
abbrev qA19 := (List (Int × Int × Int)) × Int
def qw19 (a0 : List (Int × Int × Int)) (a1 : Int) : List Arg := [.c (encF 3 d_III a0), .clo 136 [[.int .i64 a1]]]
def qE19 : qA19 → List Arg := fun ⟨a0, a1⟩ => qw19 a0 a1
def qd19 (a : List Arg) : qA19 := (decF g_III (aCell a 0 0), dInt (aCell a 1 0))
def qp19 {β : Type} (f : (List (Int × Int × Int)) → Int → β) (c0 c1 : D) : β := f (decF g_III c0) (dInt c1)
def qt19 (c0 c1 : D) : List Arg := [.c c0, .clo 136 [[c1]]]
attribute [go_sem] qw19 qp19 qt19 qE19
abbrev qA20 := Int × Int × Int
def qw20 (a0 : Int) (a1 : Int) (a2 : Int) : List Arg := [.agg [.int .i64 a0, .int .i64 a1], .ptr [.int .i64 a2]]
def qE20 : qA20 → List Arg := fun ⟨a0, a1, a2⟩ => qw20 a0 a1 a2
def qd20 (a : List Arg) : qA20 := (dInt (aCell a 0 0), dInt (aCell a 0 1), dInt (aCell a 1 0))
def qp20 {β : Type} (f : Int → Int → Int → β) (c0 c1 c2 : D) : β := f (dInt c0) (dInt c1) (dInt c2)
def qt20 (c0 c1 c2 : D) : List Arg := [.agg [c0, c1], .ptr [c2]]
attribute [go_sem] qw20 qp20 qt20 qE20
abbrev qA21 := (List (Int × Int × Int × Int)) × (List (Int × Int × Int × Int × Int)) × (List (Int × Int × Int)) × (List (Int × Int)) × Int × Int × Int × Int × Int × Int × Int × Int × Int × Int × Int × Int × Int × Int × Int
def qw21 (a0 : List (Int × Int × Int × Int)) (a1 : List (Int × Int × Int × Int × Int)) (a2 : List (Int × Int × Int)) (a3 : List (Int × Int)) (a4 : Int) (a5 : Int) (a6 : Int) (a7 : Int) (a8 : Int) (a9 : Int) (a10 : Int) (a11 : Int) (a12 : Int) (a13 : Int) (a14 : Int) (a15 : Int) (a16 : Int) (a17 : Int) (a18 : Int) : List Arg := [.agg [encF 4 d_IIII a0, encF 5 d_IIIII a1, encF 3 d_III a2, encF 2 d_II a3, .int .i64 a4, .int .i64 a5, .int .i64 a6, .int .i64 a7], .agg [.int .i64 a8, .int .i64 a9, .int .i64 a10, .int .i64 a11, .int .i64 a12, .int .i64 a13, .int .i64 a14], .c (.int .i64 a15), .agg [.int .i64 a16, .int .i64 a17, .int .i64 a18]]
def qE21 : qA21 → List Arg := fun ⟨a0, a1, a2, a3, a4, a5, a6, a7, a8, a9, a10, a11, a12, a13, a14, a15, a16, a17, a18⟩ => qw21 a0 a1 a2 a3 a4 a5 a6 a7 a8 a9 a10 a11 a12 a13 a14 a15 a16 a17 a18
def qd21 (a : List Arg) : qA21 := (decF g_IIII (aCell a 0 0), decF g_IIIII (aCell a 0 1), decF g_III (aCell a 0 2), decF g_II (aCell a 0 3), dInt (aCell a 0 4), dInt (aCell a 0 5), dInt (aCell a 0 6), dInt (aCell a 0 7), dInt (aCell a 1 0), dInt (aCell a 1 1), dInt (aCell a 1 2), dInt (aCell a 1 3), dInt (aCell a 1 4), dInt (aCell a 1 5), dInt (aCell a 1 6), dInt (aCell a 2 0), dInt (aCell a 3 0), dInt (aCell a 3 1), dInt (aCell a 3 2))
def qp21 {β : Type} (f : (List (Int × Int × Int × Int)) → (List (Int × Int × Int × Int × Int)) → (List (Int × Int × Int)) → (List (Int × Int)) → Int → Int → Int → Int → Int → Int → Int → Int → Int → Int → Int → Int → Int → Int → Int → β) (c0 c1 c2 c3 c4 c5 c6 c7 c8 c9 c10 c11 c12 c13 c14 c15 c16 c17 c18 : D) : β := f (decF g_IIII c0) (decF g_IIIII c1) (decF g_III c2) (decF g_II c3) (dInt c4) (dInt c5) (dInt c6) (dInt c7) (dInt c8) (dInt c9) (dInt c10) (dInt c11) (dInt c12) (dInt c13) (dInt c14) (dInt c15) (dInt c16) (dInt c17) (dInt c18)
def qt21 (c0 c1 c2 c3 c4 c5 c6 c7 c8 c9 c10 c11 c12 c13 c14 c15 c16 c17 c18 : D) : List Arg := [.agg [c0, c1, c2, c3, c4, c5, c6, c7], .agg [c8, c9, c10, c11, c12, c13, c14], .c c15, .agg [c16, c17, c18]]
attribute [go_sem] qw21 qp21 qt21 qE21
abbrev qA22 := (List (Int × Int × Int × Int)) × (List (Int × Int × Int × Int × Int)) × (List (Int × Int × Int)) × (List (Int × Int)) × Int × Int × Int × Int × Int × Int × Int × Int × Int × Int × Int × (List (Int)) × Int × Int × Int
def qw22 (a0 : List (Int × Int × Int × Int)) (a1 : List (Int × Int × Int × Int × Int)) (a2 : List (Int × Int × Int)) (a3 : List (Int × Int)) (a4 : Int) (a5 : Int) (a6 : Int) (a7 : Int) (a8 : Int) (a9 : Int) (a10 : Int) (a11 : Int) (a12 : Int) (a13 : Int) (a14 : Int) (a15 : List (Int)) (a16 : Int) (a17 : Int) (a18 : Int) : List Arg := [.agg [encF 4 d_IIII a0, encF 5 d_IIIII a1, encF 3 d_III a2, encF 2 d_II a3, .int .i64 a4, .int .i64 a5, .int .i64 a6, .int .i64 a7], .agg [.int .i64 a8, .int .i64 a9, .int .i64 a10, .int .i64 a11, .int .i64 a12, .int .i64 a13, .int .i64 a14], .c (encF 1 d_I a15), .agg [.int .i64 a16, .int .i64 a17, .int .i64 a18]]
def qE22 : qA22 → List Arg := fun ⟨a0, a1, a2, a3, a4, a5, a6, a7, a8, a9, a10, a11, a12, a13, a14, a15, a16, a17, a18⟩ => qw22 a0 a1 a2 a3 a4 a5 a6 a7 a8 a9 a10 a11 a12 a13 a14 a15 a16 a17 a18
def qd22 (a : List Arg) : qA22 := (decF g_IIII (aCell a 0 0), decF g_IIIII (aCell a 0 1), decF g_III (aCell a 0 2), decF g_II (aCell a 0 3), dInt (aCell a 0 4), dInt (aCell a 0 5), dInt (aCell a 0 6), dInt (aCell a 0 7), dInt (aCell a 1 0), dInt (aCell a 1 1), dInt (aCell a 1 2), dInt (aCell a 1 3), dInt (aCell a 1 4), dInt (aCell a 1 5), dInt (aCell a 1 6), decF g_I (aCell a 2 0), dInt (aCell a 3 0), dInt (aCell a 3 1), dInt (aCell a 3 2))
def qp22 {β : Type} (f : (List (Int × Int × Int × Int)) → (List (Int × Int × Int × Int × Int)) → (List (Int × Int × Int)) → (List (Int × Int)) → Int → Int → Int → Int → Int → Int → Int → Int → Int → Int → Int → (List (Int)) → Int → Int → Int → β) (c0 c1 c2 c3 c4 c5 c6 c7 c8 c9 c10 c11 c12 c13 c14 c15 c16 c17 c18 : D) : β := f (decF g_IIII c0) (decF g_IIIII c1) (decF g_III c2) (decF g_II c3) (dInt c4) (dInt c5) (dInt c6) (dInt c7) (dInt c8) (dInt c9) (dInt c10) (dInt c11) (dInt c12) (dInt c13) (dInt c14) (decF g_I c15) (dInt c16) (dInt c17) (dInt c18)
def qt22 (c0 c1 c2 c3 c4 c5 c6 c7 c8 c9 c10 c11 c12 c13 c14 c15 c16 c17 c18 : D) : List Arg := [.agg [c0, c1, c2, c3, c4, c5, c6, c7], .agg [c8, c9, c10, c11, c12, c13, c14], .c c15, .agg [c16, c17, c18]]
attribute [go_sem] qw22 qp22 qt22 qE22
abbrev qA23 := (List (Int × Int × Int × Int)) × (List (Int × Int × Int × Int × Int)) × (List (Int × Int × Int)) × (List (Int × Int)) × Int × Int × Int × Int × Int × Int × Int × Int × Int × Int × Int × (List (Int)) × Int × Int × Int
def qw23 (a0 : List (Int × Int × Int × Int)) (a1 : List (Int × Int × Int × Int × Int)) (a2 : List (Int × Int × Int)) (a3 : List (Int × Int)) (a4 : Int) (a5 : Int) (a6 : Int) (a7 : Int) (a8 : Int) (a9 : Int) (a10 : Int) (a11 : Int) (a12 : Int) (a13 : Int) (a14 : Int) (a15 : List (Int)) (a16 : Int) (a17 : Int) (a18 : Int) : List Arg := [.agg [encF 4 d_IIII a0, encF 5 d_IIIII a1, encF 3 d_III a2, encF 2 d_II a3, .int .i64 a4, .int .i64 a5, .int .i64 a6, .int .i64 a7], .agg [.int .i64 a8, .int .i64 a9, .int .i64 a10, .int .i64 a11, .int .i64 a12, .int .i64 a13, .int .i64 a14], .agg [encF 1 d_I a15, .int .i64 a16, .int .i64 a17, .int .i64 a18]]
def qE23 : qA23 → List Arg := fun ⟨a0, a1, a2, a3, a4, a5, a6, a7, a8, a9, a10, a11, a12, a13, a14, a15, a16, a17, a18⟩ => qw23 a0 a1 a2 a3 a4 a5 a6 a7 a8 a9 a10 a11 a12 a13 a14 a15 a16 a17 a18
def qd23 (a : List Arg) : qA23 := (decF g_IIII (aCell a 0 0), decF g_IIIII (aCell a 0 1), decF g_III (aCell a 0 2), decF g_II (aCell a 0 3), dInt (aCell a 0 4), dInt (aCell a 0 5), dInt (aCell a 0 6), dInt (aCell a 0 7), dInt (aCell a 1 0), dInt (aCell a 1 1), dInt (aCell a 1 2), dInt (aCell a 1 3), dInt (aCell a 1 4), dInt (aCell a 1 5), dInt (aCell a 1 6), decF g_I (aCell a 2 0), dInt (aCell a 2 1), dInt (aCell a 2 2), dInt (aCell a 2 3))
def qp23 {β : Type} (f : (List (Int × Int × Int × Int)) → (List (Int × Int × Int × Int × Int)) → (List (Int × Int × Int)) → (List (Int × Int)) → Int → Int → Int → Int → Int → Int → Int → Int → Int → Int → Int → (List (Int)) → Int → Int → Int → β) (c0 c1 c2 c3 c4 c5 c6 c7 c8 c9 c10 c11 c12 c13 c14 c15 c16 c17 c18 : D) : β := f (decF g_IIII c0) (decF g_IIIII c1) (decF g_III c2) (decF g_II c3) (dInt c4) (dInt c5) (dInt c6) (dInt c7) (dInt c8) (dInt c9) (dInt c10) (dInt c11) (dInt c12) (dInt c13) (dInt c14) (decF g_I c15) (dInt c16) (dInt c17) (dInt c18)
def qt23 (c0 c1 c2 c3 c4 c5 c6 c7 c8 c9 c10 c11 c12 c13 c14 c15 c16 c17 c18 : D) : List Arg := [.agg [c0, c1, c2, c3, c4, c5, c6, c7], .agg [c8, c9, c10, c11, c12, c13, c14], .agg [c15, c16, c17, c18]]
attribute [go_sem] qw23 qp23 qt23 qE23
abbrev qA24 := (List (Int × Int × Int × Int)) × (List (Int × Int × Int × Int × Int)) × (List (Int × Int × Int)) × (List (Int × Int)) × Int × Int × Int × Int × Int × Int × Int × Int × Int × Int × Int
def qw24 (a0 : List (Int × Int × Int × Int)) (a1 : List (Int × Int × Int × Int × Int)) (a2 : List (Int × Int × Int)) (a3 : List (Int × Int)) (a4 : Int) (a5 : Int) (a6 : Int) (a7 : Int) (a8 : Int) (a9 : Int) (a10 : Int) (a11 : Int) (a12 : Int) (a13 : Int) (a14 : Int) : List Arg := [.agg [encF 4 d_IIII a0, encF 5 d_IIIII a1, encF 3 d_III a2, encF 2 d_II a3, .int .i64 a4, .int .i64 a5, .int .i64 a6, .int .i64 a7], .agg [.int .i64 a8, .int .i64 a9, .int .i64 a10, .int .i64 a11, .int .i64 a12, .int .i64 a13, .int .i64 a14]]
def qE24 : qA24 → List Arg := fun ⟨a0, a1, a2, a3, a4, a5, a6, a7, a8, a9, a10, a11, a12, a13, a14⟩ => qw24 a0 a1 a2 a3 a4 a5 a6 a7 a8 a9 a10 a11 a12 a13 a14
def qd24 (a : List Arg) : qA24 := (decF g_IIII (aCell a 0 0), decF g_IIIII (aCell a 0 1), decF g_III (aCell a 0 2), decF g_II (aCell a 0 3), dInt (aCell a 0 4), dInt (aCell a 0 5), dInt (aCell a 0 6), dInt (aCell a 0 7), dInt (aCell a 1 0), dInt (aCell a 1 1), dInt (aCell a 1 2), dInt (aCell a 1 3), dInt (aCell a 1 4), dInt (aCell a 1 5), dInt (aCell a 1 6))
def qp24 {β : Type} (f : (List (Int × Int × Int × Int)) → (List (Int × Int × Int × Int × Int)) → (List (Int × Int × Int)) → (List (Int × Int)) → Int → Int → Int → Int → Int → Int → Int → Int → Int → Int → Int → β) (c0 c1 c2 c3 c4 c5 c6 c7 c8 c9 c10 c11 c12 c13 c14 : D) : β := f (decF g_IIII c0) (decF g_IIIII c1) (decF g_III c2) (decF g_II c3) (dInt c4) (dInt c5) (dInt c6) (dInt c7) (dInt c8) (dInt c9) (dInt c10) (dInt c11) (dInt c12) (dInt c13) (dInt c14)
def qt24 (c0 c1 c2 c3 c4 c5 c6 c7 c8 c9 c10 c11 c12 c13 c14 : D) : List Arg := [.agg [c0, c1, c2, c3, c4, c5, c6, c7], .agg [c8, c9, c10, c11, c12, c13, c14]]
attribute [go_sem] qw24 qp24 qt24 qE24
abbrev qA25 := Int × Int × Int × Int × Int × Int × Int × Int × Int × Int × Int × Int × Int × Int
def qw25 (a0 : Int) (a1 : Int) (a2 : Int) (a3 : Int) (a4 : Int) (a5 : Int) (a6 : Int) (a7 : Int) (a8 : Int) (a9 : Int) (a10 : Int) (a11 : Int) (a12 : Int) (a13 : Int) : List Arg := [.agg [.int .i64 a0, .int .i64 a1, .int .i64 a2, .int .i64 a3, .int .i64 a4, .int .i64 a5, .int .i64 a6, .int .i64 a7, .int .i64 a8, .int .i64 a9, .int .i64 a10, .int .i64 a11, .int .i64 a12, .int .i64 a13]]
def qE25 : qA25 → List Arg := fun ⟨a0, a1, a2, a3, a4, a5, a6, a7, a8, a9, a10, a11, a12, a13⟩ => qw25 a0 a1 a2 a3 a4 a5 a6 a7 a8 a9 a10 a11 a12 a13
def qd25 (a : List Arg) : qA25 := (dInt (aCell a 0 0), dInt (aCell a 0 1), dInt (aCell a 0 2), dInt (aCell a 0 3), dInt (aCell a 0 4), dInt (aCell a 0 5), dInt (aCell a 0 6), dInt (aCell a 0 7), dInt (aCell a 0 8), dInt (aCell a 0 9), dInt (aCell a 0 10), dInt (aCell a 0 11), dInt (aCell a 0 12), dInt (aCell a 0 13))
def qp25 {β : Type} (f : Int → Int → Int → Int → Int → Int → Int → Int → Int → Int → Int → Int → Int → Int → β) (c0 c1 c2 c3 c4 c5 c6 c7 c8 c9 c10 c11 c12 c13 : D) : β := f (dInt c0) (dInt c1) (dInt c2) (dInt c3) (dInt c4) (dInt c5) (dInt c6) (dInt c7) (dInt c8) (dInt c9) (dInt c10) (dInt c11) (dInt c12) (dInt c13)
def qt25 (c0 c1 c2 c3 c4 c5 c6 c7 c8 c9 c10 c11 c12 c13 : D) : List Arg := [.agg [c0, c1, c2, c3, c4, c5, c6, c7, c8, c9, c10, c11, c12, c13]]
attribute [go_sem] qw25 qp25 qt25 qE25
abbrev qA26 := Int × Int × Int × Int × Int × Int × Int × Int × Int × Int × Int × Int × Int × Int × Int × Int
def qw26 (a0 : Int) (a1 : Int) (a2 : Int) (a3 : Int) (a4 : Int) (a5 : Int) (a6 : Int) (a7 : Int) (a8 : Int) (a9 : Int) (a10 : Int) (a11 : Int) (a12 : Int) (a13 : Int) (a14 : Int) (a15 : Int) : List Arg := [.agg [.int .i64 a0, .int .i64 a1, .int .i64 a2, .int .i64 a3, .int .i64 a4, .int .i64 a5, .int .i64 a6, .int .i64 a7], .agg [.int .i64 a8, .int .i64 a9, .int .i64 a10, .int .i64 a11], .agg [.int .i64 a12, .int .i64 a13, .int .i64 a14, .int .i64 a15]]
def qE26 : qA26 → List Arg := fun ⟨a0, a1, a2, a3, a4, a5, a6, a7, a8, a9, a10, a11, a12, a13, a14, a15⟩ => qw26 a0 a1 a2 a3 a4 a5 a6 a7 a8 a9 a10 a11 a12 a13 a14 a15
def qd26 (a : List Arg) : qA26 := (dInt (aCell a 0 0), dInt (aCell a 0 1), dInt (aCell a 0 2), dInt (aCell a 0 3), dInt (aCell a 0 4), dInt (aCell a 0 5), dInt (aCell a 0 6), dInt (aCell a 0 7), dInt (aCell a 1 0), dInt (aCell a 1 1), dInt (aCell a 1 2), dInt (aCell a 1 3), dInt (aCell a 2 0), dInt (aCell a 2 1), dInt (aCell a 2 2), dInt (aCell a 2 3))
def qp26 {β : Type} (f : Int → Int → Int → Int → Int → Int → Int → Int → Int → Int → Int → Int → Int → Int → Int → Int → β) (c0 c1 c2 c3 c4 c5 c6 c7 c8 c9 c10 c11 c12 c13 c14 c15 : D) : β := f (dInt c0) (dInt c1) (dInt c2) (dInt c3) (dInt c4) (dInt c5) (dInt c6) (dInt c7) (dInt c8) (dInt c9) (dInt c10) (dInt c11) (dInt c12) (dInt c13) (dInt c14) (dInt c15)
def qt26 (c0 c1 c2 c3 c4 c5 c6 c7 c8 c9 c10 c11 c12 c13 c14 c15 : D) : List Arg := [.agg [c0, c1, c2, c3, c4, c5, c6, c7], .agg [c8, c9, c10, c11], .agg [c12, c13, c14, c15]]
attribute [go_sem] qw26 qp26 qt26 qE26
def qu8 (v : (Option (Int × Int × Int))) : List RV := [.c (.d (encP d_III v))]
attribute [go_sem] qu8
def qu9 (v : (Option (Int × Int))) : List RV := [.c (.d (encP d_II v))]
attribute [go_sem] qu9
def qu10 (v : Int × Int × Int × Int × Int × Int × Int × Int) : List RV := [.agg [.d (.int .i64 v.1), .d (.int .i64 v.2.1), .d (.int .i64 v.2.2.1), .d (.int .i64 v.2.2.2.1), .d (.int .i64 v.2.2.2.2.1), .d (.int .i64 v.2.2.2.2.2.1), .d (.int .i64 v.2.2.2.2.2.2.1)], .c (.d (.int .i64 v.2.2.2.2.2.2.2))]
attribute [go_sem] qu10
def qu11 (v : Int × Int × Int × Int) : List RV := [.agg [.d (.int .i64 v.1), .d (.int .i64 v.2.1), .d (.int .i64 v.2.2.1), .d (.int .i64 v.2.2.2)]]
attribute [go_sem] qu11
def qu12 (v : Int × Int × Int × Int × Int × Int × Int × Int) : List RV := [.agg [.d (.int .i64 v.1), .d (.int .i64 v.2.1), .d (.int .i64 v.2.2.1), .d (.int .i64 v.2.2.2.1), .d (.int .i64 v.2.2.2.2.1), .d (.int .i64 v.2.2.2.2.2.1), .d (.int .i64 v.2.2.2.2.2.2.1), .d (.int .i64 v.2.2.2.2.2.2.2)]]
attribute [go_sem] qu12
def qu13 (v : Int × Int) : List RV := [.agg [.d (.int .i64 v.1), .d (.int .i64 v.2)]]
attribute [go_sem] qu13
/- (martensite/steel.rules).cold$1 -/
def r136 (x0 : Int) (x2 : Int) (x3 : Int) (x1 : Int) : Option (Bool) :=
  some (decide (x0 ≥ x1))
def T136 : TSpec qA18 := mkT qE18 qd18 (fun ⟨x0, x2, x3, x1⟩ => r136 x0 x2 x3 x1) qu3 false
theorem TP136 (c0 c1 c2 c3 : D) : T136.sp.pre [.agg [c0, c1, c2], .ptr [c3]] = (eqvArgs (qt18 c0 c1 c2 c3) (qp18 qw18 c0 c1 c2 c3) ∧ (qp18 r136 c0 c1 c2 c3).isSome = true) := (rfl)
theorem TR136 (c0 c1 c2 c3 : D) : T136.sp.res [.agg [c0, c1, c2], .ptr [c3]] = qu3 ((qp18 r136 c0 c1 c2 c3).getD default) := (rfl)
theorem TA136 : T136.sp.alias = false := (rfl)
def tb136 : Fns := lk []
theorem tb136_ok : FnsOk Tryd.prog tb136 := FnsOk.nil
attribute [go_sem] TP136 TR136 TA136
section
attribute [local go_sem] T136 Tryd.results136
theorem v136 : Valid Tryd.prog 136 T136.sp := by
 refine valid_t (fn := Tryd.f136) (n := 8) ty_ok tb136_ok Tryd.func136 rfl Tryd.ntmps136 ?_
 rintro ⟨x0, x2, x3, x1⟩ hx
 obtain ⟨r, hr⟩ := oE (show (r136 x0 x2 x3 x1).isSome = true from hx)
 have hres : T136.res (x0, x2, x3, x1) = qu3 r := by simp only [T136, mkT, hr, oG]
 refine ⟨nL rfl, fun stop S => ?_⟩
 rw [hres] at S
 unfold r136 at hr
 refine S.gx [] ?_
 repeat refine gA ?_
 cases hr
 exact lf
theorem f136 : FnFact Tryd.prog 136 T136.sp := ⟨⟨Tryd.f136, Tryd.func136, by decide, rfl⟩, v136⟩
end

/- slices.IndexFunc[[]martensite/api.SteelCold,martensite/api.SteelCold] -/
def b146_1 (a0 : List (Int × Int × Int)) (x0 : Int) : (Int) → Ctl (Int) (Int) := fun s1 =>
  if (decide (s1 < (a0.length : Int))) = true then
   if 0 ≤ s1 ∧ s1 < (a0.length : Int) then
    bindC (r136 ((a0.getD s1.toNat default).1) ((a0.getD s1.toNat default).2.1) ((a0.getD s1.toNat default).2.2) x0) fun v1 =>
     if v1 = true then
      .out (some s1)
      else .next (IntKind.i64.wrap (s1 + 1))
    else .out none
   else .out (some (-1))
def r146 (a0 : List (Int × Int × Int)) (x0 : Int) : Option (Int) :=
  iterC (b146_1 a0 x0) 1000000000 0
def T146 : TSpec qA19 := mkT qE19 qd19 (fun ⟨a0, x0⟩ => r146 a0 x0) qu4 false
theorem TP146 (c0 c1 : D) : T146.sp.pre [.c c0, .clo 136 [[c1]]] = (eqvArgs (qt19 c0 c1) (qp19 qw19 c0 c1) ∧ (qp19 r146 c0 c1).isSome = true) := (rfl)
theorem TR146 (c0 c1 : D) : T146.sp.res [.c c0, .clo 136 [[c1]]] = qu4 ((qp19 r146 c0 c1).getD default) := (rfl)
theorem TA146 : T146.sp.alias = false := (rfl)
def tb146 : Fns := lk [(136, T136.sp)]
theorem tb146_ok : FnsOk Tryd.prog tb146 := .cons f136 (FnsOk.nil)
theorem tb146_136 : tb146 136 = some T136.sp := rfl
attribute [go_sem] TP146 TR146 TA146
section
attribute [local go_sem] T146 tb146_136 Tryd.results146
theorem v146 : Valid Tryd.prog 146 T146.sp := by
 refine valid_t (fn := Tryd.f146) (n := 19) ty_ok tb146_ok Tryd.func146 rfl Tryd.ntmps146 ?_
 rintro ⟨a0, x0⟩ hx
 obtain ⟨r, hr⟩ := oE (show (r146 a0 x0).isSome = true from hx)
 have hres : T146.res (a0, x0) = qu4 r := by simp only [T146, mkT, hr, oG]
 refine ⟨nL rfl, fun stop S => ?_⟩
 rw [hres] at S
 unfold r146 at hr
 refine S.gx [] ?_
 repeat refine gA ?_
 refine S.sees [0, 1, 7, 8] [] [] ?_ (Stop.iter S (fun s1 => ⟨[(0, .c (.d (encF 3 d_III a0))), (1, .c (.clo 136 [.sptr [.int .i64 x0] 0])), (7, .c (.d (.int .i64 (a0.length : Int)))), (8, .c (.d (.int .i64 s1)))], [], []⟩) (b146_1 a0 x0) (fun q => q = r) hr rfl ?_)
 ·exact lf
 ·intro s1 hr
  unfold b146_1 at hr
  refine S.gx [] ?_
  repeat refine gA ?_
  refine ⟨?_, ?_⟩ <;> intro hc
  ·have hr := ifP1 hr hc
   obtain ⟨hg2, hr⟩ := of_guard1 hr
   obtain ⟨v1, hv1, hr⟩ := of_bind1 hr
   try simp only [hv1, oG, oI, true_and, and_assoc]
   repeat refine gA ?_
   refine ⟨?_, ?_⟩ <;> intro hc
   ·have hr := ifP1 hr hc
    repeat refine gA ?_
    have hr := of_out0 hr
    cases hr
    exact lf
   ·have hr := ifN1 hr hc
    repeat refine gA ?_
    refine S.sees [0, 1, 7, 8] [] [] ?_ hr
    exact lf
  ·have hr := ifN1 hr hc
   repeat refine gA ?_
   have hr := of_out0 hr
   repeat refine gA ?_
   cases hr
   exact lf
theorem f146 : FnFact Tryd.prog 146 T146.sp := ⟨⟨Tryd.f146, Tryd.func146, by decide, rfl⟩, v146⟩
end

/- (martensite/steel.rules).cold -/
def r117 (x1 : List (Int × Int × Int × Int)) (x2 : List (Int × Int × Int × Int × Int)) (x0 : List (Int × Int × Int)) (x3 : List (Int × Int)) (x4 : Int) (x5 : Int) (x6 : Int) (x7 : Int) (a1 : Int) : Option ((Option (Int × Int × Int))) :=
  (r146 x0 a1).bind fun v1 =>
   if (decide (v1 ≥ 0)) = true then
    if 0 ≤ v1 ∧ v1 < (x0.length : Int) then
     some (some ((x0.getD v1.toNat default).1, (x0.getD v1.toNat default).2.1, (x0.getD v1.toNat default).2.2))
     else none
    else some none
def T117 : TSpec qA14 := mkT qE14 qd14 (fun ⟨x1, x2, x0, x3, x4, x5, x6, x7, a1⟩ => r117 x1 x2 x0 x3 x4 x5 x6 x7 a1) qu8 true
theorem TP117 (c0 c1 c2 c3 c4 c5 c6 c7 c8 : D) : T117.sp.pre [.agg [c0, c1, c2, c3, c4, c5, c6, c7], .c c8] = (eqvArgs (qt14 c0 c1 c2 c3 c4 c5 c6 c7 c8) (qp14 qw14 c0 c1 c2 c3 c4 c5 c6 c7 c8) ∧ (qp14 r117 c0 c1 c2 c3 c4 c5 c6 c7 c8).isSome = true) := (rfl)
theorem TR117 (c0 c1 c2 c3 c4 c5 c6 c7 c8 : D) : T117.sp.res [.agg [c0, c1, c2, c3, c4, c5, c6, c7], .c c8] = qu8 ((qp14 r117 c0 c1 c2 c3 c4 c5 c6 c7 c8).getD default) := (rfl)
theorem TA117 : T117.sp.alias = true := (rfl)
def tb117 : Fns := lk [(146, T146.sp)]
theorem tb117_ok : FnsOk Tryd.prog tb117 := .cons f146 (FnsOk.nil)
theorem tb117_146 : tb117 146 = some T146.sp := rfl
attribute [go_sem] TP117 TR117 TA117
section
attribute [local go_sem] T117 tb117_146 Tryd.results117 Tryd.results135
theorem v117 : Valid Tryd.prog 117 T117.sp := by
 refine valid_t (fn := Tryd.f117) (n := 10) ty_ok tb117_ok Tryd.func117 rfl Tryd.ntmps117 ?_
 rintro ⟨x1, x2, x0, x3, x4, x5, x6, x7, a1⟩ hx
 obtain ⟨r, hr⟩ := oE (show (r117 x1 x2 x0 x3 x4 x5 x6 x7 a1).isSome = true from hx)
 have hres : T117.res (x1, x2, x0, x3, x4, x5, x6, x7, a1) = qu8 r := by simp only [T117, mkT, hr, oG]
 refine ⟨nL rfl, fun stop S => ?_⟩
 rw [hres] at S
 unfold r117 at hr
 refine S.gx [1] ?_
 repeat refine gA ?_
 refine S.inl 4 [4] [] Tryd.func135 (by decide) rfl Tryd.ntmps135 (fun cx e => drawn_ok ty_ok tb117_ok cx e) (some 9) rfl rfl rfl rfl (nL rfl) (nL rfl) ?_
 refine gs ?_
 repeat refine gA ?_
 intro stop1 S1
 refine S1.gx [] ?_
 obtain ⟨v1, hv1, hr⟩ := of_bind0 hr
 try simp only [hv1, oG, oI, true_and, and_assoc]
 repeat refine gA ?_
 refine ⟨?_, ?_⟩ <;> intro hc
 ·have hr := ifP hr hc
  obtain ⟨hg2, hr⟩ := of_guard0 hr
  repeat refine gA ?_
  refine S.gx [1] ?_
  repeat refine gA ?_
  cases hr
  exact lf
 ·have hr := ifN hr hc
  repeat refine gA ?_
  refine S.gx [1] ?_
  repeat refine gA ?_
  cases hr
  exact lf
theorem f117 : FnFact Tryd.prog 117 T117.sp := ⟨⟨Tryd.f117, Tryd.func117, by decide, rfl⟩, v117⟩
end

/- martensite/steel.martensite -/
def r118 (a0 : Int) (a1 : Int) (a2 : Int) : Option (Int) :=
  some (if a1 < IntKind.i64.wrap ((IntKind.i64.wrap ((IntKind.i64.wrap (a0 + a1)) * a2)).tdiv 1000000) then IntKind.i64.wrap ((IntKind.i64.wrap ((IntKind.i64.wrap (a0 + a1)) * a2)).tdiv 1000000) else a1)
def T118 : TSpec qA2 := mkT qE2 qd2 (fun ⟨a0, a1, a2⟩ => r118 a0 a1 a2) qu4 false
theorem TP118 (c0 c1 c2 : D) : T118.sp.pre [.c c0, .c c1, .c c2] = (eqvArgs (qt2 c0 c1 c2) (qp2 qw2 c0 c1 c2) ∧ (qp2 r118 c0 c1 c2).isSome = true) := (rfl)
theorem TR118 (c0 c1 c2 : D) : T118.sp.res [.c c0, .c c1, .c c2] = qu4 ((qp2 r118 c0 c1 c2).getD default) := (rfl)
theorem TA118 : T118.sp.alias = false := (rfl)
def tb118 : Fns := lk []
theorem tb118_ok : FnsOk Tryd.prog tb118 := FnsOk.nil
attribute [go_sem] TP118 TR118 TA118
section
attribute [local go_sem] T118 Tryd.results118
theorem v118 : Valid Tryd.prog 118 T118.sp := by
 refine valid_t (fn := Tryd.f118) (n := 15) ty_ok tb118_ok Tryd.func118 rfl Tryd.ntmps118 ?_
 rintro ⟨a0, a1, a2⟩ hx
 obtain ⟨r, hr⟩ := oE (show (r118 a0 a1 a2).isSome = true from hx)
 have hres : T118.res (a0, a1, a2) = qu4 r := by simp only [T118, mkT, hr, oG]
 refine ⟨nL rfl, fun stop S => ?_⟩
 rw [hres] at S
 unfold r118 at hr
 refine S.gx [] ?_
 repeat refine gA ?_
 cases hr
 exact lf
theorem f118 : FnFact Tryd.prog 118 T118.sp := ⟨⟨Tryd.f118, Tryd.func118, by decide, rfl⟩, v118⟩
end

/- (martensite/steel.rules).temper$1 -/
def r138 (x0 : Int) (x2 : Int) (x1 : Int) : Option (Bool) :=
  some (decide (x0 ≤ x1))
def T138 : TSpec qA20 := mkT qE20 qd20 (fun ⟨x0, x2, x1⟩ => r138 x0 x2 x1) qu3 false
theorem TP138 (c0 c1 c2 : D) : T138.sp.pre [.agg [c0, c1], .ptr [c2]] = (eqvArgs (qt20 c0 c1 c2) (qp20 qw20 c0 c1 c2) ∧ (qp20 r138 c0 c1 c2).isSome = true) := (rfl)
theorem TR138 (c0 c1 c2 : D) : T138.sp.res [.agg [c0, c1], .ptr [c2]] = qu3 ((qp20 r138 c0 c1 c2).getD default) := (rfl)
theorem TA138 : T138.sp.alias = false := (rfl)
def tb138 : Fns := lk []
theorem tb138_ok : FnsOk Tryd.prog tb138 := FnsOk.nil
attribute [go_sem] TP138 TR138 TA138
section
attribute [local go_sem] T138 Tryd.results138
theorem v138 : Valid Tryd.prog 138 T138.sp := by
 refine valid_t (fn := Tryd.f138) (n := 8) ty_ok tb138_ok Tryd.func138 rfl Tryd.ntmps138 ?_
 rintro ⟨x0, x2, x1⟩ hx
 obtain ⟨r, hr⟩ := oE (show (r138 x0 x2 x1).isSome = true from hx)
 have hres : T138.res (x0, x2, x1) = qu3 r := by simp only [T138, mkT, hr, oG]
 refine ⟨nL rfl, fun stop S => ?_⟩
 rw [hres] at S
 unfold r138 at hr
 refine S.gx [] ?_
 repeat refine gA ?_
 cases hr
 exact lf
theorem f138 : FnFact Tryd.prog 138 T138.sp := ⟨⟨Tryd.f138, Tryd.func138, by decide, rfl⟩, v138⟩
end

/- (martensite/steel.rules).temper -/
def b119_1 (x0 : List (Int × Int)) (a1 : Int) : (Int) → Ctl (Int) ((Option (Int × Int))) := fun s1 =>
  if (decide (s1 ≥ 0)) = true then
   if 0 ≤ s1 ∧ s1 < (x0.length : Int) then
    if 0 ≤ s1 ∧ s1 < (x0.length : Int) then
     bindC (r138 ((x0.getD s1.toNat default).1) ((x0.getD s1.toNat default).2) a1) fun v1 =>
      if v1 = true then
       if 0 ≤ s1 ∧ s1 < (x0.length : Int) then
        .out (some (some ((x0.getD s1.toNat default).1, (x0.getD s1.toNat default).2)))
        else .out none
       else .next (IntKind.i64.wrap (s1 - 1))
     else .out none
    else .out none
   else .out (some none)
def r119 (x1 : List (Int × Int × Int × Int)) (x2 : List (Int × Int × Int × Int × Int)) (x3 : List (Int × Int × Int)) (x0 : List (Int × Int)) (x4 : Int) (x5 : Int) (x6 : Int) (x7 : Int) (a1 : Int) : Option ((Option (Int × Int))) :=
  iterC (b119_1 x0 a1) 1000000000 (IntKind.i64.wrap ((x0.length : Int) - 1))
def T119 : TSpec qA14 := mkT qE14 qd14 (fun ⟨x1, x2, x3, x0, x4, x5, x6, x7, a1⟩ => r119 x1 x2 x3 x0 x4 x5 x6 x7 a1) qu9 true
theorem TP119 (c0 c1 c2 c3 c4 c5 c6 c7 c8 : D) : T119.sp.pre [.agg [c0, c1, c2, c3, c4, c5, c6, c7], .c c8] = (eqvArgs (qt14 c0 c1 c2 c3 c4 c5 c6 c7 c8) (qp14 qw14 c0 c1 c2 c3 c4 c5 c6 c7 c8) ∧ (qp14 r119 c0 c1 c2 c3 c4 c5 c6 c7 c8).isSome = true) := (rfl)
theorem TR119 (c0 c1 c2 c3 c4 c5 c6 c7 c8 : D) : T119.sp.res [.agg [c0, c1, c2, c3, c4, c5, c6, c7], .c c8] = qu9 ((qp14 r119 c0 c1 c2 c3 c4 c5 c6 c7 c8).getD default) := (rfl)
theorem TA119 : T119.sp.alias = true := (rfl)
def tb119 : Fns := lk [(138, T138.sp)]
theorem tb119_ok : FnsOk Tryd.prog tb119 := .cons f138 (FnsOk.nil)
theorem tb119_138 : tb119 138 = some T138.sp := rfl
attribute [go_sem] TP119 TR119 TA119
section
attribute [local go_sem] T119 tb119_138 Tryd.results119 Tryd.results137 Tryd.results147 Tryd.results152
theorem v119 : Valid Tryd.prog 119 T119.sp := by
 refine valid_t (fn := Tryd.f119) (n := 10) ty_ok tb119_ok Tryd.func119 rfl Tryd.ntmps119 ?_
 rintro ⟨x1, x2, x3, x0, x4, x5, x6, x7, a1⟩ hx
 obtain ⟨r, hr⟩ := oE (show (r119 x1 x2 x3 x0 x4 x5 x6 x7 a1).isSome = true from hx)
 have hres : T119.res (x1, x2, x3, x0, x4, x5, x6, x7, a1) = qu9 r := by simp only [T119, mkT, hr, oG]
 refine ⟨nL rfl, fun stop S => ?_⟩
 rw [hres] at S
 unfold r119 at hr
 refine S.gx [1] ?_
 repeat refine gA ?_
 refine S.inl 4 [4] [] Tryd.func137 (by decide) rfl Tryd.ntmps137 (fun cx e => drawn_ok ty_ok tb119_ok cx e) (some 9) rfl rfl rfl rfl (nL rfl) (nL rfl) ?_
 refine gs ?_
 repeat refine gA ?_
 intro stop1 S1
 refine S1.gx [1, 3] ?_
 repeat refine gA ?_
 refine S1.inl 1 [2, 3, 4] [] Tryd.func147 (by decide) rfl Tryd.ntmps147 (fun cx e => drawn_ok ty_ok tb119_ok cx e) (some 7) rfl rfl rfl rfl (nL rfl) (nL rfl) ?_
 refine gs ?_
 repeat refine gA ?_
 intro stop2 S2
 refine S2.gx [] ?_
 repeat refine gA ?_
 refine S1.gx [1, 3] ?_
 repeat refine gA ?_
 refine S1.range [2, 3, 4] Tryd.func152 (by decide) rfl Tryd.ntmps152 Tryd.results152 (fun cx e => drawn_ok ty_ok tb119_ok cx e) (fun cx e => drawn_ok ty_ok tb119_ok cx e) (by decide) rfl rfl (nL rfl) ?_
 intro l2 stop2 stopJ2 S2 SJ2 Y2
 refine S2.gx [3] ?_
 repeat refine gA ?_
 refine S2.sees [0, 1, 3] [(1, 1), (100002, 100002), (100003, 100003), (4, 4), (3, 3)] [] ?_ (Stop.iter S2 (fun s1 => ⟨[(0, .c (.yld l2)), (1, .c (.ref 1 0)), (3, .c (.d (.int .i64 s1)))], [(1, [.d (encF 2 d_II x0)]), (100002, [.d (encF 2 d_II x0)]), (100003, [.clo 138 [.ref 3 0]]), (4, [.d (encP d_II none)]), (3, [.d (.int .i64 a1)])], []⟩) (b119_1 x0 a1) (fun q => q = r) hr rfl ?_)
 ·exact lf
 ·intro s1 hr
  unfold b119_1 at hr
  refine S2.gx [3] ?_
  repeat refine gA ?_
  refine ⟨?_, ?_⟩ <;> intro hc
  ·have hr := ifP1 hr hc
   repeat refine gA ?_
   refine Y2 6 [0, 1, 3] (some 17) rfl rfl rfl rfl (nL rfl) (by rfl) ?_
   refine gs ?_
   obtain ⟨hg4, hr⟩ := of_guard1 hr
   repeat refine gA ?_
   intro stopA3 SA3
   refine SA3.gx [] ?_
   repeat refine gA ?_
   intro stop3 S3
   refine S3.gx [1, 3] ?_
   repeat refine gA ?_
   refine S3.gx [1] ?_
   obtain ⟨hg3, hr⟩ := of_guard1 hr
   obtain ⟨v1, hv1, hr⟩ := of_bind1 hr
   try simp only [hv1, oG, oI, true_and, and_assoc]
   repeat refine gA ?_
   refine ⟨?_, ?_⟩ <;> intro hc
   ·have hr := ifP1 hr hc
    obtain ⟨hg2, hr⟩ := of_guard1 hr
    repeat refine gA ?_
    refine (SJ2 .ret).gx [3] ?_
    repeat refine gA ?_
    have hr := of_out0 hr
    repeat refine gA ?_
    refine S1.gx [1, 3] ?_
    repeat refine gA ?_
    refine S.gx [1] ?_
    repeat refine gA ?_
    cases hr
    exact lf
   ·have hr := ifN1 hr hc
    repeat refine gA ?_
    refine S2.gx [3] ?_
    repeat refine gA ?_
    refine S2.sees [0, 1, 3] [(1, 1), (100002, 100002), (100003, 100003), (4, 4), (3, 3)] [] ?_ hr
    exact lf
  ·have hr := ifN1 hr hc
   repeat refine gA ?_
   have hr := of_out0 hr
   repeat refine gA ?_
   refine S1.gx [1, 3] ?_
   repeat refine gA ?_
   refine S.gx [1] ?_
   repeat refine gA ?_
   cases hr
   exact lf
theorem f119 : FnFact Tryd.prog 119 T119.sp := ⟨⟨Tryd.f119, Tryd.func119, by decide, rfl⟩, v119⟩
end

/- (martensite/steel.rules).step -/
def r85 (x7 : List (Int × Int × Int × Int)) (x8 : List (Int × Int × Int × Int × Int)) (x9 : List (Int × Int × Int)) (x10 : List (Int × Int)) (x11 : Int) (x12 : Int) (x13 : Int) (x14 : Int) (x2 : Int) (x0 : Int) (x3 : Int) (x1 : Int) (x4 : Int) (x6 : Int) (x5 : Int) (a2 : Int) (x17 : Int) (x16 : Int) (x15 : Int) : Option (Int × Int × Int × Int × Int × Int × Int) :=
  (r114 x7 x8 x9 x10 x11 x12 x13 x14 a2).bind fun v1 =>
   if v1.isSome = true then
    if v1.isSome = true then
     if v1.isSome = true then
      (r115 ((v1.getD default).2.1) ((v1.getD default).2.2.1) x17).bind fun v2 =>
       if (decide ((IntKind.i64.wrap (x0 + (if v2 < IntKind.i64.wrap (x2 + (IntKind.i64.wrap (x3 + x1))) then v2 else IntKind.i64.wrap (x2 + (IntKind.i64.wrap (x3 + x1)))))) > 0)) = true then
        if v1.isSome = true then
         if v1.isSome = true then
          some (IntKind.i64.wrap ((IntKind.i64.wrap (x2 + (IntKind.i64.wrap (x3 + x1)))) - (if v2 < IntKind.i64.wrap (x2 + (IntKind.i64.wrap (x3 + x1))) then v2 else IntKind.i64.wrap (x2 + (IntKind.i64.wrap (x3 + x1))))), IntKind.i64.wrap (x0 + (if v2 < IntKind.i64.wrap (x2 + (IntKind.i64.wrap (x3 + x1))) then v2 else IntKind.i64.wrap (x2 + (IntKind.i64.wrap (x3 + x1))))), 0, 0, 0, (if IntKind.i64.wrap (x6 + ((v1.getD default).2.2.2)) < 100000 then IntKind.i64.wrap (x6 + ((v1.getD default).2.2.2)) else 100000), 0)
          else none
         else none
        else some (IntKind.i64.wrap ((IntKind.i64.wrap (x2 + (IntKind.i64.wrap (x3 + x1)))) - (if v2 < IntKind.i64.wrap (x2 + (IntKind.i64.wrap (x3 + x1))) then v2 else IntKind.i64.wrap (x2 + (IntKind.i64.wrap (x3 + x1))))), IntKind.i64.wrap (x0 + (if v2 < IntKind.i64.wrap (x2 + (IntKind.i64.wrap (x3 + x1))) then v2 else IntKind.i64.wrap (x2 + (IntKind.i64.wrap (x3 + x1))))), 0, 0, 0, x6, 0)
      else none
     else none
    else (r116 x7 x8 x9 x10 x11 x12 x13 x14 a2).bind fun v7 =>
     if v7.isSome = true then
      if v7.isSome = true then
       if v7.isSome = true then
        (r115 ((v7.getD default).2.1) ((v7.getD default).2.2.1) x16).bind fun v8 =>
         if ((if IntKind.i64.wrap (x4 + v8) < 1000000 then IntKind.i64.wrap (x4 + v8) else 1000000) == 1000000) = true then
          if v7.isSome = true then
           if v7.isSome = true then
            (r115 ((v7.getD default).2.2.2.1) ((v7.getD default).2.2.2.2) x16).bind fun v9 =>
             (r117 x7 x8 x9 x10 x11 x12 x13 x14 a2).bind fun v10 =>
              if v10.isSome = true then
               if v10.isSome = true then
                if v10.isSome = true then
                 (r115 ((v10.getD default).2.1) ((v10.getD default).2.2) x15).bind fun v11 =>
                  (r118 (IntKind.i64.wrap (x0 - (if v9 < x0 then v9 else x0))) x1 v11).bind fun v12 =>
                   (r119 x7 x8 x9 x10 x11 x12 x13 x14 a2).bind fun v13 =>
                    if v13.isSome = true then
                     if v13.isSome = true then
                      if v13.isSome = true then
                       some (x2, IntKind.i64.wrap ((IntKind.i64.wrap (x0 - (if v9 < x0 then v9 else x0))) - (IntKind.i64.wrap (v12 - x1))), IntKind.i64.wrap (x3 + (if v9 < x0 then v9 else x0)), v12, (if IntKind.i64.wrap (x4 + v8) < 1000000 then IntKind.i64.wrap (x4 + v8) else 1000000), x6, (if IntKind.i64.wrap (x5 + ((v13.getD default).2)) < 1000000 then IntKind.i64.wrap (x5 + ((v13.getD default).2)) else 1000000))
                       else none
                      else none
                     else some (x2, IntKind.i64.wrap ((IntKind.i64.wrap (x0 - (if v9 < x0 then v9 else x0))) - (IntKind.i64.wrap (v12 - x1))), IntKind.i64.wrap (x3 + (if v9 < x0 then v9 else x0)), v12, (if IntKind.i64.wrap (x4 + v8) < 1000000 then IntKind.i64.wrap (x4 + v8) else 1000000), x6, x5)
                 else none
                else none
               else (r119 x7 x8 x9 x10 x11 x12 x13 x14 a2).bind fun v18 =>
                if v18.isSome = true then
                 if v18.isSome = true then
                  if v18.isSome = true then
                   some (x2, IntKind.i64.wrap (x0 - (if v9 < x0 then v9 else x0)), IntKind.i64.wrap (x3 + (if v9 < x0 then v9 else x0)), x1, (if IntKind.i64.wrap (x4 + v8) < 1000000 then IntKind.i64.wrap (x4 + v8) else 1000000), x6, (if IntKind.i64.wrap (x5 + ((v18.getD default).2)) < 1000000 then IntKind.i64.wrap (x5 + ((v18.getD default).2)) else 1000000))
                   else none
                  else none
                 else some (x2, IntKind.i64.wrap (x0 - (if v9 < x0 then v9 else x0)), IntKind.i64.wrap (x3 + (if v9 < x0 then v9 else x0)), x1, (if IntKind.i64.wrap (x4 + v8) < 1000000 then IntKind.i64.wrap (x4 + v8) else 1000000), x6, x5)
            else none
           else none
          else (r117 x7 x8 x9 x10 x11 x12 x13 x14 a2).bind fun v23 =>
           if v23.isSome = true then
            if v23.isSome = true then
             if v23.isSome = true then
              (r115 ((v23.getD default).2.1) ((v23.getD default).2.2) x15).bind fun v24 =>
               (r118 x0 x1 v24).bind fun v25 =>
                (r119 x7 x8 x9 x10 x11 x12 x13 x14 a2).bind fun v26 =>
                 if v26.isSome = true then
                  if v26.isSome = true then
                   if v26.isSome = true then
                    some (x2, IntKind.i64.wrap (x0 - (IntKind.i64.wrap (v25 - x1))), x3, v25, (if IntKind.i64.wrap (x4 + v8) < 1000000 then IntKind.i64.wrap (x4 + v8) else 1000000), x6, (if IntKind.i64.wrap (x5 + ((v26.getD default).2)) < 1000000 then IntKind.i64.wrap (x5 + ((v26.getD default).2)) else 1000000))
                    else none
                   else none
                  else some (x2, IntKind.i64.wrap (x0 - (IntKind.i64.wrap (v25 - x1))), x3, v25, (if IntKind.i64.wrap (x4 + v8) < 1000000 then IntKind.i64.wrap (x4 + v8) else 1000000), x6, x5)
              else none
             else none
            else (r119 x7 x8 x9 x10 x11 x12 x13 x14 a2).bind fun v31 =>
             if v31.isSome = true then
              if v31.isSome = true then
               if v31.isSome = true then
                some (x2, x0, x3, x1, (if IntKind.i64.wrap (x4 + v8) < 1000000 then IntKind.i64.wrap (x4 + v8) else 1000000), x6, (if IntKind.i64.wrap (x5 + ((v31.getD default).2)) < 1000000 then IntKind.i64.wrap (x5 + ((v31.getD default).2)) else 1000000))
                else none
               else none
              else some (x2, x0, x3, x1, (if IntKind.i64.wrap (x4 + v8) < 1000000 then IntKind.i64.wrap (x4 + v8) else 1000000), x6, x5)
        else none
       else none
      else (r117 x7 x8 x9 x10 x11 x12 x13 x14 a2).bind fun v36 =>
       if v36.isSome = true then
        if v36.isSome = true then
         if v36.isSome = true then
          (r115 ((v36.getD default).2.1) ((v36.getD default).2.2) x15).bind fun v37 =>
           (r118 x0 x1 v37).bind fun v38 =>
            (r119 x7 x8 x9 x10 x11 x12 x13 x14 a2).bind fun v39 =>
             if v39.isSome = true then
              if v39.isSome = true then
               if v39.isSome = true then
                some (x2, IntKind.i64.wrap (x0 - (IntKind.i64.wrap (v38 - x1))), x3, v38, x4, x6, (if IntKind.i64.wrap (x5 + ((v39.getD default).2)) < 1000000 then IntKind.i64.wrap (x5 + ((v39.getD default).2)) else 1000000))
                else none
               else none
              else some (x2, IntKind.i64.wrap (x0 - (IntKind.i64.wrap (v38 - x1))), x3, v38, x4, x6, x5)
          else none
         else none
        else (r119 x7 x8 x9 x10 x11 x12 x13 x14 a2).bind fun v44 =>
         if v44.isSome = true then
          if v44.isSome = true then
           if v44.isSome = true then
            some (x2, x0, x3, x1, x4, x6, (if IntKind.i64.wrap (x5 + ((v44.getD default).2)) < 1000000 then IntKind.i64.wrap (x5 + ((v44.getD default).2)) else 1000000))
            else none
           else none
          else some (x2, x0, x3, x1, x4, x6, x5)
def T85 : TSpec qA21 := mkT qE21 qd21 (fun ⟨x7, x8, x9, x10, x11, x12, x13, x14, x2, x0, x3, x1, x4, x6, x5, a2, x17, x16, x15⟩ => r85 x7 x8 x9 x10 x11 x12 x13 x14 x2 x0 x3 x1 x4 x6 x5 a2 x17 x16 x15) qu1 false
theorem TP85 (c0 c1 c2 c3 c4 c5 c6 c7 c8 c9 c10 c11 c12 c13 c14 c15 c16 c17 c18 : D) : T85.sp.pre [.agg [c0, c1, c2, c3, c4, c5, c6, c7], .agg [c8, c9, c10, c11, c12, c13, c14], .c c15, .agg [c16, c17, c18]] = (eqvArgs (qt21 c0 c1 c2 c3 c4 c5 c6 c7 c8 c9 c10 c11 c12 c13 c14 c15 c16 c17 c18) (qp21 qw21 c0 c1 c2 c3 c4 c5 c6 c7 c8 c9 c10 c11 c12 c13 c14 c15 c16 c17 c18) ∧ (qp21 r85 c0 c1 c2 c3 c4 c5 c6 c7 c8 c9 c10 c11 c12 c13 c14 c15 c16 c17 c18).isSome = true) := (rfl)
theorem TR85 (c0 c1 c2 c3 c4 c5 c6 c7 c8 c9 c10 c11 c12 c13 c14 c15 c16 c17 c18 : D) : T85.sp.res [.agg [c0, c1, c2, c3, c4, c5, c6, c7], .agg [c8, c9, c10, c11, c12, c13, c14], .c c15, .agg [c16, c17, c18]] = qu1 ((qp21 r85 c0 c1 c2 c3 c4 c5 c6 c7 c8 c9 c10 c11 c12 c13 c14 c15 c16 c17 c18).getD default) := (rfl)
theorem TA85 : T85.sp.alias = false := (rfl)
def tb85 : Fns := lk [(114, T114.sp), (115, T115.sp), (116, T116.sp), (117, T117.sp), (118, T118.sp), (119, T119.sp)]
theorem tb85_ok : FnsOk Tryd.prog tb85 := .cons f114 (.cons f115 (.cons f116 (.cons f117 (.cons f118 (.cons f119 (FnsOk.nil))))))
theorem tb85_114 : tb85 114 = some T114.sp := rfl
theorem tb85_115 : tb85 115 = some T115.sp := rfl
theorem tb85_116 : tb85 116 = some T116.sp := rfl
theorem tb85_117 : tb85 117 = some T117.sp := rfl
theorem tb85_118 : tb85 118 = some T118.sp := rfl
theorem tb85_119 : tb85 119 = some T119.sp := rfl
attribute [go_sem] TP85 TR85 TA85
section
attribute [local go_sem] T85 tb85_114 tb85_115 tb85_116 tb85_117 tb85_118 tb85_119 Tryd.results85
theorem v85 : Valid Tryd.prog 85 T85.sp := by
 refine valid_t (fn := Tryd.f85) (n := 149) ty_ok tb85_ok Tryd.func85 rfl Tryd.ntmps85 ?_
 rintro ⟨x7, x8, x9, x10, x11, x12, x13, x14, x2, x0, x3, x1, x4, x6, x5, a2, x17, x16, x15⟩ hx
 obtain ⟨r, hr⟩ := oE (show (r85 x7 x8 x9 x10 x11 x12 x13 x14 x2 x0 x3 x1 x4 x6 x5 a2 x17 x16 x15).isSome = true from hx)
 have hres : T85.res (x7, x8, x9, x10, x11, x12, x13, x14, x2, x0, x3, x1, x4, x6, x5, a2, x17, x16, x15) = qu1 r := by simp only [T85, mkT, hr, oG]
 refine ⟨nL rfl, fun stop S => ?_⟩
 rw [hres] at S
 unfold r85 at hr
 refine S.gx [6, 16, 18, 21, 26] ?_
 obtain ⟨v1, hv1, hr⟩ := of_bind0 hr
 try simp only [hv1, oG, oI, true_and, and_assoc]
 repeat refine gA ?_
 refine ⟨?_, ?_⟩ <;> intro hc
 ·have hr := ifP hr hc
  obtain ⟨hg5, hr⟩ := of_guard0 hr
  obtain ⟨hg6, hr⟩ := of_guard0 hr
  obtain ⟨v2, hv2, hr⟩ := of_bind0 hr
  try simp only [hv2, oG, oI, true_and, and_assoc]
  repeat refine gA ?_
  refine S.prune [5, 8, 9, 10] ?_
  refine S.gx [16, 18, 21, 26] ?_
  repeat refine gA ?_
  refine ⟨?_, ?_⟩ <;> intro hc
  ·have hr := ifP hr hc
   obtain ⟨hg3, hr⟩ := of_guard0 hr
   obtain ⟨hg4, hr⟩ := of_guard0 hr
   repeat refine gA ?_
   cases hr
   exact lf
  ·have hr := ifN hr hc
   repeat refine gA ?_
   cases hr
   exact lf
 ·have hr := ifN hr hc
  obtain ⟨v7, hv7, hr⟩ := of_bind0 hr
  try simp only [hv7, oG, oI, true_and, and_assoc]
  repeat refine gA ?_
  refine ⟨?_, ?_⟩ <;> intro hc
  ·have hr := ifP hr hc
   obtain ⟨hg34, hr⟩ := of_guard0 hr
   obtain ⟨hg35, hr⟩ := of_guard0 hr
   obtain ⟨v8, hv8, hr⟩ := of_bind0 hr
   try simp only [hv8, oG, oI, true_and, and_assoc]
   repeat refine gA ?_
   refine ⟨?_, ?_⟩ <;> intro hc
   ·have hr := ifP hr hc
    obtain ⟨hg21, hr⟩ := of_guard0 hr
    obtain ⟨hg22, hr⟩ := of_guard0 hr
    obtain ⟨v9, hv9, hr⟩ := of_bind0 hr
    try simp only [hv9, oG, oI, true_and, and_assoc]
    repeat refine gA ?_
    refine S.prune [2, 4, 5, 7, 8, 12] ?_
    refine S.gx [6, 18, 21, 26] ?_
    repeat refine gA ?_
    refine S.prune [2, 4, 5, 7, 8] ?_
    refine S.gx [6, 16, 21, 26] ?_
    obtain ⟨v10, hv10, hr⟩ := of_bind0 hr
    try simp only [hv10, oG, oI, true_and, and_assoc]
    repeat refine gA ?_
    refine ⟨?_, ?_⟩ <;> intro hc
    ·have hr := ifP hr hc
     obtain ⟨hg16, hr⟩ := of_guard0 hr
     obtain ⟨hg17, hr⟩ := of_guard0 hr
     obtain ⟨v11, hv11, hr⟩ := of_bind0 hr
     obtain ⟨v12, hv12, hr⟩ := of_bind0 hr
     try simp only [hv11, hv12, Option.getD_some, Option.isSome_some, true_and, and_assoc]
     repeat refine gA ?_
     refine S.prune [2, 4, 5, 8, 14] ?_
     refine S.gx [6, 16, 18, 26] ?_
     repeat refine gA ?_
     obtain ⟨v13, hv13, hr⟩ := of_bind0 hr
     try simp only [hv13, oG, oI, true_and, and_assoc]
     repeat refine gA ?_
     refine ⟨?_, ?_⟩ <;> intro hc
     ·have hr := ifP hr hc
      obtain ⟨hg14, hr⟩ := of_guard0 hr
      obtain ⟨hg15, hr⟩ := of_guard0 hr
      repeat refine gA ?_
      refine S.prune [5, 8] ?_
      refine S.gx [6, 16, 18, 21] ?_
      repeat refine gA ?_
      cases hr
      exact lf
     ·have hr := ifN hr hc
      repeat refine gA ?_
      refine S.prune [5, 8] ?_
      refine S.gx [6, 16, 18, 21] ?_
      repeat refine gA ?_
      cases hr
      exact lf
    ·have hr := ifN hr hc
     obtain ⟨v18, hv18, hr⟩ := of_bind0 hr
     try simp only [hv18, oG, oI, true_and, and_assoc]
     repeat refine gA ?_
     refine ⟨?_, ?_⟩ <;> intro hc
     ·have hr := ifP hr hc
      obtain ⟨hg19, hr⟩ := of_guard0 hr
      obtain ⟨hg20, hr⟩ := of_guard0 hr
      repeat refine gA ?_
      refine S.prune [5, 8] ?_
      refine S.gx [6, 16, 18, 21] ?_
      repeat refine gA ?_
      cases hr
      exact lf
     ·have hr := ifN hr hc
      repeat refine gA ?_
      refine S.prune [5, 8] ?_
      refine S.gx [6, 16, 18, 21] ?_
      repeat refine gA ?_
      cases hr
      exact lf
   ·have hr := ifN hr hc
    repeat refine gA ?_
    refine S.prune [2, 4, 5, 7, 8] ?_
    refine S.gx [6, 16, 21, 26] ?_
    obtain ⟨v23, hv23, hr⟩ := of_bind0 hr
    try simp only [hv23, oG, oI, true_and, and_assoc]
    repeat refine gA ?_
    refine ⟨?_, ?_⟩ <;> intro hc
    ·have hr := ifP hr hc
     obtain ⟨hg29, hr⟩ := of_guard0 hr
     obtain ⟨hg30, hr⟩ := of_guard0 hr
     obtain ⟨v24, hv24, hr⟩ := of_bind0 hr
     obtain ⟨v25, hv25, hr⟩ := of_bind0 hr
     try simp only [hv24, hv25, Option.getD_some, Option.isSome_some, true_and, and_assoc]
     repeat refine gA ?_
     refine S.prune [2, 4, 5, 8, 14] ?_
     refine S.gx [6, 16, 18, 26] ?_
     repeat refine gA ?_
     obtain ⟨v26, hv26, hr⟩ := of_bind0 hr
     try simp only [hv26, oG, oI, true_and, and_assoc]
     repeat refine gA ?_
     refine ⟨?_, ?_⟩ <;> intro hc
     ·have hr := ifP hr hc
      obtain ⟨hg27, hr⟩ := of_guard0 hr
      obtain ⟨hg28, hr⟩ := of_guard0 hr
      repeat refine gA ?_
      refine S.prune [5, 8] ?_
      refine S.gx [6, 16, 18, 21] ?_
      repeat refine gA ?_
      cases hr
      exact lf
     ·have hr := ifN hr hc
      repeat refine gA ?_
      refine S.prune [5, 8] ?_
      refine S.gx [6, 16, 18, 21] ?_
      repeat refine gA ?_
      cases hr
      exact lf
    ·have hr := ifN hr hc
     obtain ⟨v31, hv31, hr⟩ := of_bind0 hr
     try simp only [hv31, oG, oI, true_and, and_assoc]
     repeat refine gA ?_
     refine ⟨?_, ?_⟩ <;> intro hc
     ·have hr := ifP hr hc
      obtain ⟨hg32, hr⟩ := of_guard0 hr
      obtain ⟨hg33, hr⟩ := of_guard0 hr
      repeat refine gA ?_
      refine S.prune [5, 8] ?_
      refine S.gx [6, 16, 18, 21] ?_
      repeat refine gA ?_
      cases hr
      exact lf
     ·have hr := ifN hr hc
      repeat refine gA ?_
      refine S.prune [5, 8] ?_
      refine S.gx [6, 16, 18, 21] ?_
      repeat refine gA ?_
      cases hr
      exact lf
  ·have hr := ifN hr hc
   repeat refine gA ?_
   refine S.prune [2, 4, 5, 7, 8] ?_
   refine S.gx [6, 16, 21, 26] ?_
   obtain ⟨v36, hv36, hr⟩ := of_bind0 hr
   try simp only [hv36, oG, oI, true_and, and_assoc]
   repeat refine gA ?_
   refine ⟨?_, ?_⟩ <;> intro hc
   ·have hr := ifP hr hc
    obtain ⟨hg42, hr⟩ := of_guard0 hr
    obtain ⟨hg43, hr⟩ := of_guard0 hr
    obtain ⟨v37, hv37, hr⟩ := of_bind0 hr
    obtain ⟨v38, hv38, hr⟩ := of_bind0 hr
    try simp only [hv37, hv38, Option.getD_some, Option.isSome_some, true_and, and_assoc]
    repeat refine gA ?_
    refine S.prune [2, 4, 5, 8, 14] ?_
    refine S.gx [6, 16, 18, 26] ?_
    repeat refine gA ?_
    obtain ⟨v39, hv39, hr⟩ := of_bind0 hr
    try simp only [hv39, oG, oI, true_and, and_assoc]
    repeat refine gA ?_
    refine ⟨?_, ?_⟩ <;> intro hc
    ·have hr := ifP hr hc
     obtain ⟨hg40, hr⟩ := of_guard0 hr
     obtain ⟨hg41, hr⟩ := of_guard0 hr
     repeat refine gA ?_
     refine S.prune [5, 8] ?_
     refine S.gx [6, 16, 18, 21] ?_
     repeat refine gA ?_
     cases hr
     exact lf
    ·have hr := ifN hr hc
     repeat refine gA ?_
     refine S.prune [5, 8] ?_
     refine S.gx [6, 16, 18, 21] ?_
     repeat refine gA ?_
     cases hr
     exact lf
   ·have hr := ifN hr hc
    obtain ⟨v44, hv44, hr⟩ := of_bind0 hr
    try simp only [hv44, oG, oI, true_and, and_assoc]
    repeat refine gA ?_
    refine ⟨?_, ?_⟩ <;> intro hc
    ·have hr := ifP hr hc
     obtain ⟨hg45, hr⟩ := of_guard0 hr
     obtain ⟨hg46, hr⟩ := of_guard0 hr
     repeat refine gA ?_
     refine S.prune [5, 8] ?_
     refine S.gx [6, 16, 18, 21] ?_
     repeat refine gA ?_
     cases hr
     exact lf
    ·have hr := ifN hr hc
     repeat refine gA ?_
     refine S.prune [5, 8] ?_
     refine S.gx [6, 16, 18, 21] ?_
     repeat refine gA ?_
     cases hr
     exact lf
theorem f85 : FnFact Tryd.prog 85 T85.sp := ⟨⟨Tryd.f85, Tryd.func85, by decide, rfl⟩, v85⟩
end

/- (martensite/steel.rules).run -/
def b75_1 (x0 : List (Int × Int × Int × Int)) (x1 : List (Int × Int × Int × Int × Int)) (x2 : List (Int × Int × Int)) (x3 : List (Int × Int)) (x4 : Int) (x5 : Int) (x6 : Int) (x7 : Int) (a2 : List (Int)) (x8 : Int) (x9 : Int) (x10 : Int) : (Int × Int × Int × Int × Int × Int × Int × Int) → Ctl (Int × Int × Int × Int × Int × Int × Int × Int) (Int × Int × Int × Int × Int × Int × Int) := fun s1 =>
  if (decide (s1.1 < (a2.length : Int))) = true then
   if 0 ≤ s1.1 ∧ s1.1 < (a2.length : Int) then
    bindC (r85 x0 x1 x2 x3 x4 x5 x6 x7 s1.2.1 s1.2.2.1 s1.2.2.2.1 s1.2.2.2.2.1 s1.2.2.2.2.2.1 s1.2.2.2.2.2.2.1 s1.2.2.2.2.2.2.2 (a2.getD s1.1.toNat default) x8 x9 x10) fun v1 =>
     .next (IntKind.i64.wrap (s1.1 + 1), v1.1, v1.2.1, v1.2.2.1, v1.2.2.2.1, v1.2.2.2.2.1, v1.2.2.2.2.2.1, v1.2.2.2.2.2.2)
    else .out none
   else .out (some (s1.2.1, s1.2.2.1, s1.2.2.2.1, s1.2.2.2.2.1, s1.2.2.2.2.2.1, s1.2.2.2.2.2.2.1, s1.2.2.2.2.2.2.2))
def r75 (x0 : List (Int × Int × Int × Int)) (x1 : List (Int × Int × Int × Int × Int)) (x2 : List (Int × Int × Int)) (x3 : List (Int × Int)) (x4 : Int) (x5 : Int) (x6 : Int) (x7 : Int) (x11 : Int) (x12 : Int) (x13 : Int) (x14 : Int) (x15 : Int) (x16 : Int) (x17 : Int) (a2 : List (Int)) (x8 : Int) (x9 : Int) (x10 : Int) : Option (Int × Int × Int × Int × Int × Int × Int) :=
  iterC (b75_1 x0 x1 x2 x3 x4 x5 x6 x7 a2 x8 x9 x10) 1000000000 (0, x11, x12, x13, x14, x15, x16, x17)
def T75 : TSpec qA22 := mkT qE22 qd22 (fun ⟨x0, x1, x2, x3, x4, x5, x6, x7, x11, x12, x13, x14, x15, x16, x17, a2, x8, x9, x10⟩ => r75 x0 x1 x2 x3 x4 x5 x6 x7 x11 x12 x13 x14 x15 x16 x17 a2 x8 x9 x10) qu1 false
theorem TP75 (c0 c1 c2 c3 c4 c5 c6 c7 c8 c9 c10 c11 c12 c13 c14 c15 c16 c17 c18 : D) : T75.sp.pre [.agg [c0, c1, c2, c3, c4, c5, c6, c7], .agg [c8, c9, c10, c11, c12, c13, c14], .c c15, .agg [c16, c17, c18]] = (eqvArgs (qt22 c0 c1 c2 c3 c4 c5 c6 c7 c8 c9 c10 c11 c12 c13 c14 c15 c16 c17 c18) (qp22 qw22 c0 c1 c2 c3 c4 c5 c6 c7 c8 c9 c10 c11 c12 c13 c14 c15 c16 c17 c18) ∧ (qp22 r75 c0 c1 c2 c3 c4 c5 c6 c7 c8 c9 c10 c11 c12 c13 c14 c15 c16 c17 c18).isSome = true) := (rfl)
theorem TR75 (c0 c1 c2 c3 c4 c5 c6 c7 c8 c9 c10 c11 c12 c13 c14 c15 c16 c17 c18 : D) : T75.sp.res [.agg [c0, c1, c2, c3, c4, c5, c6, c7], .agg [c8, c9, c10, c11, c12, c13, c14], .c c15, .agg [c16, c17, c18]] = qu1 ((qp22 r75 c0 c1 c2 c3 c4 c5 c6 c7 c8 c9 c10 c11 c12 c13 c14 c15 c16 c17 c18).getD default) := (rfl)
theorem TA75 : T75.sp.alias = false := (rfl)
def tb75 : Fns := lk [(85, T85.sp)]
theorem tb75_ok : FnsOk Tryd.prog tb75 := .cons f85 (FnsOk.nil)
theorem tb75_85 : tb75 85 = some T85.sp := rfl
attribute [go_sem] TP75 TR75 TA75
section
attribute [local go_sem] T75 tb75_85 Tryd.results75
theorem v75 : Valid Tryd.prog 75 T75.sp := by
 refine valid_t (fn := Tryd.f75) (n := 24) ty_ok tb75_ok Tryd.func75 rfl Tryd.ntmps75 ?_
 rintro ⟨x0, x1, x2, x3, x4, x5, x6, x7, x11, x12, x13, x14, x15, x16, x17, a2, x8, x9, x10⟩ hx
 obtain ⟨r, hr⟩ := oE (show (r75 x0 x1 x2 x3 x4 x5 x6 x7 x11 x12 x13 x14 x15 x16 x17 a2 x8 x9 x10).isSome = true from hx)
 have hres : T75.res (x0, x1, x2, x3, x4, x5, x6, x7, x11, x12, x13, x14, x15, x16, x17, a2, x8, x9, x10) = qu1 r := by simp only [T75, mkT, hr, oG]
 refine ⟨nL rfl, fun stop S => ?_⟩
 rw [hres] at S
 unfold r75 at hr
 refine S.gx [] ?_
 repeat refine gA ?_
 refine S.sees [4, 5, 7, 8, 11, 12, 13] [(4, 4), (5, 5), (7, 7), (8, 8)] [] ?_ (Stop.iter S (fun s1 => ⟨[(4, .c (.ref 4 0)), (5, .c (.ref 5 0)), (7, .c (.ref 7 0)), (8, .c (.ref 8 0)), (11, .c (.d (encF 1 d_I a2))), (12, .c (.d (.int .i64 (a2.length : Int)))), (13, .c (.d (.int .i64 s1.1)))], [(4, [.d (encF 4 d_IIII x0), .d (encF 5 d_IIIII x1), .d (encF 3 d_III x2), .d (encF 2 d_II x3), .d (.int .i64 x4), .d (.int .i64 x5), .d (.int .i64 x6), .d (.int .i64 x7)]), (5, [.d (.int .i64 s1.2.1), .d (.int .i64 s1.2.2.1), .d (.int .i64 s1.2.2.2.1), .d (.int .i64 s1.2.2.2.2.1), .d (.int .i64 s1.2.2.2.2.2.1), .d (.int .i64 s1.2.2.2.2.2.2.1), .d (.int .i64 s1.2.2.2.2.2.2.2)]), (7, [.d (.int .i64 x8), .d (.int .i64 x9), .d (.int .i64 x10)]), (8, [.d (.int .i64 0), .d (.int .i64 0), .d (.int .i64 0), .d (.int .i64 0), .d (.int .i64 0), .d (.int .i64 0), .d (.int .i64 0)])], []⟩) (b75_1 x0 x1 x2 x3 x4 x5 x6 x7 a2 x8 x9 x10) (fun q => q = r) hr rfl ?_)
 ·exact lf
 ·intro s1 hr
  unfold b75_1 at hr
  refine S.gx [] ?_
  repeat refine gA ?_
  refine ⟨?_, ?_⟩ <;> intro hc
  ·have hr := ifP1 hr hc
   obtain ⟨hg2, hr⟩ := of_guard1 hr
   obtain ⟨v1, hv1, hr⟩ := of_bind1 hr
   try simp only [hv1, oG, oI, true_and, and_assoc]
   repeat refine gA ?_
   refine S.sees [4, 5, 7, 8, 11, 12, 13] [(4, 4), (5, 5), (7, 7), (8, 8)] [] ?_ hr
   exact lf
  ·have hr := ifN1 hr hc
   repeat refine gA ?_
   have hr := of_out0 hr
   repeat refine gA ?_
   cases hr
   exact lf
theorem f75 : FnFact Tryd.prog 75 T75.sp := ⟨⟨Tryd.f75, Tryd.func75, by decide, rfl⟩, v75⟩
end

/- martensite/steel.RunOf -/
def r23 (x0 : List (Int × Int × Int × Int)) (x1 : List (Int × Int × Int × Int × Int)) (x2 : List (Int × Int × Int)) (x3 : List (Int × Int)) (x4 : Int) (x5 : Int) (x6 : Int) (x7 : Int) (x8 : Int) (x9 : Int) (x10 : Int) (x11 : Int) (x12 : Int) (x13 : Int) (x14 : Int) (x15 : List (Int)) (x16 : Int) (x17 : Int) (x18 : Int) : Option (Int × Int × Int × Int × Int × Int × Int × Int) :=
  (r73 x0 x1 x2 x3 x4 x5 x6 x7).bind fun v1 =>
   (r17 x8 x9 x10 x11 x12 x13 x14).bind fun v2 =>
    (r74 x15).bind fun v3 =>
     (r19 x16 x17 x18).bind fun v4 =>
      (r67 [v1, v2, v3, v4]).bind fun v5 =>
       if (v5 != 0) = true then
        some (0, 0, 0, 0, 0, 0, 0, v5)
        else (r75 x0 x1 x2 x3 x4 x5 x6 x7 x8 x9 x10 x11 x12 x13 x14 x15 x16 x17 x18).bind fun v6 =>
         some (v6.1, v6.2.1, v6.2.2.1, v6.2.2.2.1, v6.2.2.2.2.1, v6.2.2.2.2.2.1, v6.2.2.2.2.2.2, 0)
def T23 : TSpec qA23 := mkT qE23 qd23 (fun ⟨x0, x1, x2, x3, x4, x5, x6, x7, x8, x9, x10, x11, x12, x13, x14, x15, x16, x17, x18⟩ => r23 x0 x1 x2 x3 x4 x5 x6 x7 x8 x9 x10 x11 x12 x13 x14 x15 x16 x17 x18) qu10 false
theorem TP23 (c0 c1 c2 c3 c4 c5 c6 c7 c8 c9 c10 c11 c12 c13 c14 c15 c16 c17 c18 : D) : T23.sp.pre [.agg [c0, c1, c2, c3, c4, c5, c6, c7], .agg [c8, c9, c10, c11, c12, c13, c14], .agg [c15, c16, c17, c18]] = (eqvArgs (qt23 c0 c1 c2 c3 c4 c5 c6 c7 c8 c9 c10 c11 c12 c13 c14 c15 c16 c17 c18) (qp23 qw23 c0 c1 c2 c3 c4 c5 c6 c7 c8 c9 c10 c11 c12 c13 c14 c15 c16 c17 c18) ∧ (qp23 r23 c0 c1 c2 c3 c4 c5 c6 c7 c8 c9 c10 c11 c12 c13 c14 c15 c16 c17 c18).isSome = true) := (rfl)
theorem TR23 (c0 c1 c2 c3 c4 c5 c6 c7 c8 c9 c10 c11 c12 c13 c14 c15 c16 c17 c18 : D) : T23.sp.res [.agg [c0, c1, c2, c3, c4, c5, c6, c7], .agg [c8, c9, c10, c11, c12, c13, c14], .agg [c15, c16, c17, c18]] = qu10 ((qp23 r23 c0 c1 c2 c3 c4 c5 c6 c7 c8 c9 c10 c11 c12 c13 c14 c15 c16 c17 c18).getD default) := (rfl)
theorem TA23 : T23.sp.alias = false := (rfl)
def tb23 : Fns := lk [(17, T17.sp), (19, T19.sp), (67, T67.sp), (73, T73.sp), (74, T74.sp), (75, T75.sp)]
theorem tb23_ok : FnsOk Tryd.prog tb23 := .cons f17 (.cons f19 (.cons f67 (.cons f73 (.cons f74 (.cons f75 (FnsOk.nil))))))
theorem tb23_17 : tb23 17 = some T17.sp := rfl
theorem tb23_19 : tb23 19 = some T19.sp := rfl
theorem tb23_67 : tb23 67 = some T67.sp := rfl
theorem tb23_73 : tb23 73 = some T73.sp := rfl
theorem tb23_74 : tb23 74 = some T74.sp := rfl
theorem tb23_75 : tb23 75 = some T75.sp := rfl
attribute [go_sem] TP23 TR23 TA23
section
attribute [local go_sem] T23 tb23_17 tb23_19 tb23_67 tb23_73 tb23_74 tb23_75 Tryd.results23
theorem v23 : Valid Tryd.prog 23 T23.sp := by
 refine valid_t (fn := Tryd.f23) (n := 33) ty_ok tb23_ok Tryd.func23 rfl Tryd.ntmps23 ?_
 rintro ⟨x0, x1, x2, x3, x4, x5, x6, x7, x8, x9, x10, x11, x12, x13, x14, x15, x16, x17, x18⟩ hx
 obtain ⟨r, hr⟩ := oE (show (r23 x0 x1 x2 x3 x4 x5 x6 x7 x8 x9 x10 x11 x12 x13 x14 x15 x16 x17 x18).isSome = true from hx)
 have hres : T23.res (x0, x1, x2, x3, x4, x5, x6, x7, x8, x9, x10, x11, x12, x13, x14, x15, x16, x17, x18) = qu10 r := by simp only [T23, mkT, hr, oG]
 refine ⟨nL rfl, fun stop S => ?_⟩
 rw [hres] at S
 unfold r23 at hr
 refine S.gx [] ?_
 obtain ⟨v1, hv1, hr⟩ := of_bind0 hr
 obtain ⟨v2, hv2, hr⟩ := of_bind0 hr
 obtain ⟨v3, hv3, hr⟩ := of_bind0 hr
 obtain ⟨v4, hv4, hr⟩ := of_bind0 hr
 obtain ⟨v5, hv5, hr⟩ := of_bind0 hr
 try simp only [hv1, hv2, hv3, hv4, hv5, Option.getD_some, Option.isSome_some, true_and, and_assoc]
 repeat refine gA ?_
 refine ⟨?_, ?_⟩ <;> intro hc
 ·have hr := ifP hr hc
  repeat refine gA ?_
  cases hr
  exact lf
 ·have hr := ifN hr hc
  obtain ⟨v6, hv6, hr⟩ := of_bind0 hr
  try simp only [hv6, oG, oI, true_and, and_assoc]
  repeat refine gA ?_
  cases hr
  exact lf
theorem f23 : FnFact Tryd.prog 23 T23.sp := ⟨⟨Tryd.f23, Tryd.func23, by decide, rfl⟩, v23⟩
end

/- martensite/martensitelaw04.Austenite -/
def r61 : Option (Int × Int × Int × Int × Int × Int × Int) :=
  some (0, 1000000, 0, 0, 0, 0, 0)
def T61 : TSpec qA0 := mkT qE0 qd0 (fun _ => r61) qu1 false
theorem TP61 : T61.sp.pre [] = (eqvArgs (qt0 ) (qp0 qw0 ) ∧ (qp0 r61).isSome = true) := (rfl)
theorem TR61 : T61.sp.res [] = qu1 ((qp0 r61).getD default) := (rfl)
theorem TA61 : T61.sp.alias = false := (rfl)
def tb61 : Fns := lk []
theorem tb61_ok : FnsOk Tryd.prog tb61 := FnsOk.nil
attribute [go_sem] TP61 TR61 TA61
section
attribute [local go_sem] T61 Tryd.results61
theorem v61 : Valid Tryd.prog 61 T61.sp := by
 refine valid_t (fn := Tryd.f61) (n := 2) ty_ok tb61_ok Tryd.func61 rfl Tryd.ntmps61 ?_
 intro _ hx
 obtain ⟨r, hr⟩ := oE (show (r61).isSome = true from hx)
 have hres : T61.res () = qu1 r := by simp only [T61, mkT, hr, oG]
 refine ⟨nL rfl, fun stop S => ?_⟩
 rw [hres] at S
 unfold r61 at hr
 refine S.gx [] ?_
 repeat refine gA ?_
 cases hr
 exact lf
theorem f61 : FnFact Tryd.prog 61 T61.sp := ⟨⟨Tryd.f61, Tryd.func61, by decide, rfl⟩, v61⟩
end

/- (martensite/steel.rules).hardness -/
def r86 (x4 : List (Int × Int × Int × Int)) (x5 : List (Int × Int × Int × Int × Int)) (x6 : List (Int × Int × Int)) (x7 : List (Int × Int)) (x2 : Int) (x3 : Int) (x0 : Int) (x1 : Int) (a1 : Int) : Option (Int × Int × Int × Int) :=
  some (x2, x3, x0, (if x0 < IntKind.i64.wrap (x1 - a1) then IntKind.i64.wrap (x1 - a1) else x0))
def T86 : TSpec qA14 := mkT qE14 qd14 (fun ⟨x4, x5, x6, x7, x2, x3, x0, x1, a1⟩ => r86 x4 x5 x6 x7 x2 x3 x0 x1 a1) qu11 false
theorem TP86 (c0 c1 c2 c3 c4 c5 c6 c7 c8 : D) : T86.sp.pre [.agg [c0, c1, c2, c3, c4, c5, c6, c7], .c c8] = (eqvArgs (qt14 c0 c1 c2 c3 c4 c5 c6 c7 c8) (qp14 qw14 c0 c1 c2 c3 c4 c5 c6 c7 c8) ∧ (qp14 r86 c0 c1 c2 c3 c4 c5 c6 c7 c8).isSome = true) := (rfl)
theorem TR86 (c0 c1 c2 c3 c4 c5 c6 c7 c8 : D) : T86.sp.res [.agg [c0, c1, c2, c3, c4, c5, c6, c7], .c c8] = qu11 ((qp14 r86 c0 c1 c2 c3 c4 c5 c6 c7 c8).getD default) := (rfl)
theorem TA86 : T86.sp.alias = false := (rfl)
def tb86 : Fns := lk []
theorem tb86_ok : FnsOk Tryd.prog tb86 := FnsOk.nil
attribute [go_sem] TP86 TR86 TA86
section
attribute [local go_sem] T86 Tryd.results86
theorem v86 : Valid Tryd.prog 86 T86.sp := by
 refine valid_t (fn := Tryd.f86) (n := 18) ty_ok tb86_ok Tryd.func86 rfl Tryd.ntmps86 ?_
 rintro ⟨x4, x5, x6, x7, x2, x3, x0, x1, a1⟩ hx
 obtain ⟨r, hr⟩ := oE (show (r86 x4 x5 x6 x7 x2 x3 x0 x1 a1).isSome = true from hx)
 have hres : T86.res (x4, x5, x6, x7, x2, x3, x0, x1, a1) = qu11 r := by simp only [T86, mkT, hr, oG]
 refine ⟨nL rfl, fun stop S => ?_⟩
 rw [hres] at S
 unfold r86 at hr
 refine S.gx [] ?_
 repeat refine gA ?_
 cases hr
 exact lf
theorem f86 : FnFact Tryd.prog 86 T86.sp := ⟨⟨Tryd.f86, Tryd.func86, by decide, rfl⟩, v86⟩
end

/- martensite/steel.HardnessOf -/
def b31_1 (x0 : List (Int × Int × Int × Int)) (x1 : List (Int × Int × Int × Int × Int)) (x2 : List (Int × Int × Int)) (x3 : List (Int × Int)) (x4 : Int) (x5 : Int) (x6 : Int) (x7 : Int) (x9 : Int) (x10 : Int) (x11 : Int) (x12 : Int) (x8 : Int) : (Int × Int) → Ctl (Int × Int) (Int × Int) := fun s1 =>
  if (decide (s1.2 < 4)) = true then
   if s1.2 = 0 then
    bindC (r86 x0 x1 x2 x3 x4 x5 x6 x7 x8) fun v11 =>
     .next (IntKind.i64.wrap (s1.1 + (IntKind.i64.wrap (x9 * v11.1))), IntKind.i64.wrap (0 + 1))
    else if s1.2 = 1 then
     bindC (r86 x0 x1 x2 x3 x4 x5 x6 x7 x8) fun v9 =>
      .next (IntKind.i64.wrap (s1.1 + (IntKind.i64.wrap (x10 * v9.2.1))), IntKind.i64.wrap (1 + 1))
     else if s1.2 = 2 then
      bindC (r86 x0 x1 x2 x3 x4 x5 x6 x7 x8) fun v7 =>
       .next (IntKind.i64.wrap (s1.1 + (IntKind.i64.wrap (x11 * v7.2.2.1))), IntKind.i64.wrap (2 + 1))
      else if s1.2 = 3 then
       bindC (r86 x0 x1 x2 x3 x4 x5 x6 x7 x8) fun v5 =>
        .next (IntKind.i64.wrap (s1.1 + (IntKind.i64.wrap (x12 * v5.2.2.2))), IntKind.i64.wrap (3 + 1))
       else .out none
   else .out (some (IntKind.i64.wrap (s1.1.tdiv 1000000), 0))
def r31 (x0 : List (Int × Int × Int × Int)) (x1 : List (Int × Int × Int × Int × Int)) (x2 : List (Int × Int × Int)) (x3 : List (Int × Int)) (x4 : Int) (x5 : Int) (x6 : Int) (x7 : Int) (x9 : Int) (x10 : Int) (x11 : Int) (x12 : Int) (x13 : Int) (x14 : Int) (x8 : Int) : Option (Int × Int) :=
  (r73 x0 x1 x2 x3 x4 x5 x6 x7).bind fun v1 =>
   (r17 x9 x10 x11 x12 x13 x14 x8).bind fun v2 =>
    (r67 [v1, v2]).bind fun v3 =>
     if (v3 != 0) = true then
      some (0, v3)
      else iterC (b31_1 x0 x1 x2 x3 x4 x5 x6 x7 x9 x10 x11 x12 x8) 1000000000 (0, 0)
def T31 : TSpec qA24 := mkT qE24 qd24 (fun ⟨x0, x1, x2, x3, x4, x5, x6, x7, x9, x10, x11, x12, x13, x14, x8⟩ => r31 x0 x1 x2 x3 x4 x5 x6 x7 x9 x10 x11 x12 x13 x14 x8) qu5 false
theorem TP31 (c0 c1 c2 c3 c4 c5 c6 c7 c8 c9 c10 c11 c12 c13 c14 : D) : T31.sp.pre [.agg [c0, c1, c2, c3, c4, c5, c6, c7], .agg [c8, c9, c10, c11, c12, c13, c14]] = (eqvArgs (qt24 c0 c1 c2 c3 c4 c5 c6 c7 c8 c9 c10 c11 c12 c13 c14) (qp24 qw24 c0 c1 c2 c3 c4 c5 c6 c7 c8 c9 c10 c11 c12 c13 c14) ∧ (qp24 r31 c0 c1 c2 c3 c4 c5 c6 c7 c8 c9 c10 c11 c12 c13 c14).isSome = true) := (rfl)
theorem TR31 (c0 c1 c2 c3 c4 c5 c6 c7 c8 c9 c10 c11 c12 c13 c14 : D) : T31.sp.res [.agg [c0, c1, c2, c3, c4, c5, c6, c7], .agg [c8, c9, c10, c11, c12, c13, c14]] = qu5 ((qp24 r31 c0 c1 c2 c3 c4 c5 c6 c7 c8 c9 c10 c11 c12 c13 c14).getD default) := (rfl)
theorem TA31 : T31.sp.alias = false := (rfl)
def tb31 : Fns := lk [(17, T17.sp), (67, T67.sp), (73, T73.sp), (86, T86.sp)]
theorem tb31_ok : FnsOk Tryd.prog tb31 := .cons f17 (.cons f67 (.cons f73 (.cons f86 (FnsOk.nil))))
theorem tb31_17 : tb31 17 = some T17.sp := rfl
theorem tb31_67 : tb31 67 = some T67.sp := rfl
theorem tb31_73 : tb31 73 = some T73.sp := rfl
theorem tb31_86 : tb31 86 = some T86.sp := rfl
theorem lt31_0 : (((3 : Int) = 0 ∨ (0 : Int) < 3)) = True := by first | rfl | decide | simp
theorem lt31_1 : (((2 : Int) = 0 ∨ (0 : Int) < 2)) = True := by first | rfl | decide | simp
theorem lt31_2 : (((1 : Int) = 0 ∨ (0 : Int) < 1)) = True := by first | rfl | decide | simp
attribute [go_sem] TP31 TR31 TA31
section
attribute [local go_sem] T31 tb31_17 tb31_67 tb31_73 tb31_86 Tryd.results31 lt31_0 lt31_1 lt31_2
theorem v31 : Valid Tryd.prog 31 T31.sp := by
 refine valid_t (fn := Tryd.f31) (n := 46) ty_ok tb31_ok Tryd.func31 rfl Tryd.ntmps31 ?_
 rintro ⟨x0, x1, x2, x3, x4, x5, x6, x7, x9, x10, x11, x12, x13, x14, x8⟩ hx
 obtain ⟨r, hr⟩ := oE (show (r31 x0 x1 x2 x3 x4 x5 x6 x7 x9 x10 x11 x12 x13 x14 x8).isSome = true from hx)
 have hres : T31.res (x0, x1, x2, x3, x4, x5, x6, x7, x9, x10, x11, x12, x13, x14, x8) = qu5 r := by simp only [T31, mkT, hr, oG]
 refine ⟨nL rfl, fun stop S => ?_⟩
 rw [hres] at S
 unfold r31 at hr
 refine S.gx [7] ?_
 obtain ⟨v1, hv1, hr⟩ := of_bind0 hr
 obtain ⟨v2, hv2, hr⟩ := of_bind0 hr
 obtain ⟨v3, hv3, hr⟩ := of_bind0 hr
 try simp only [hv1, hv2, hv3, Option.getD_some, Option.isSome_some, true_and, and_assoc]
 repeat refine gA ?_
 refine ⟨?_, ?_⟩ <;> intro hc
 ·have hr := ifP hr hc
  repeat refine gA ?_
  cases hr
  exact lf
 ·have hr := ifN hr hc
  repeat refine gA ?_
  refine S.sees [2, 3, 7, 27, 28] [(2, 2), (3, 3)] [] ?_ (Stop.iter S (fun s1 => ⟨[(2, .c (.ref 2 0)), (3, .c (.ref 3 0)), (7, .c (.d (.int .i64 s1.1))), (27, .agg [.d (.int .i64 x9), .d (.int .i64 x10), .d (.int .i64 x11), .d (.int .i64 x12)]), (28, .c (.d (.int .i64 s1.2)))], [(2, [.d (encF 4 d_IIII x0), .d (encF 5 d_IIIII x1), .d (encF 3 d_III x2), .d (encF 2 d_II x3), .d (.int .i64 x4), .d (.int .i64 x5), .d (.int .i64 x6), .d (.int .i64 x7)]), (3, [.d (.int .i64 x9), .d (.int .i64 x10), .d (.int .i64 x11), .d (.int .i64 x12), .d (.int .i64 x13), .d (.int .i64 x14), .d (.int .i64 x8)])], []⟩) (b31_1 x0 x1 x2 x3 x4 x5 x6 x7 x9 x10 x11 x12 x8) (fun q => q = r) hr rfl ?_)
  ·exact lf
  ·intro s1 hr
   unfold b31_1 at hr
   refine S.gx [7] ?_
   repeat refine gA ?_
   refine ⟨?_, ?_⟩ <;> intro hc
   ·have hr := ifP1 hr hc
    repeat refine gA ?_
    by_cases hs10 : s1.2 = 0
    ·rw [if_pos hs10] at hr
     simp only [hs10]
     refine S.gx [] ?_
     repeat refine gA ?_
     obtain ⟨v11, hv11, hr⟩ := of_bind1 hr
     try simp only [hv11, oG, oI, true_and, and_assoc]
     repeat refine gA ?_
     refine S.sees [2, 3, 7, 27, 28] [(2, 2), (3, 3)] [] ?_ hr
     exact lf
    ·rw [if_neg hs10] at hr
     by_cases hs8 : s1.2 = 1
     ·rw [if_pos hs8] at hr
      simp only [hs8]
      refine S.gx [] ?_
      repeat refine gA ?_
      obtain ⟨v9, hv9, hr⟩ := of_bind1 hr
      try simp only [hv9, oG, oI, true_and, and_assoc]
      repeat refine gA ?_
      refine S.sees [2, 3, 7, 27, 28] [(2, 2), (3, 3)] [] ?_ hr
      exact lf
     ·rw [if_neg hs8] at hr
      by_cases hs6 : s1.2 = 2
      ·rw [if_pos hs6] at hr
       simp only [hs6]
       refine S.gx [] ?_
       repeat refine gA ?_
       obtain ⟨v7, hv7, hr⟩ := of_bind1 hr
       try simp only [hv7, oG, oI, true_and, and_assoc]
       repeat refine gA ?_
       refine S.sees [2, 3, 7, 27, 28] [(2, 2), (3, 3)] [] ?_ hr
       exact lf
      ·rw [if_neg hs6] at hr
       by_cases hs4 : s1.2 = 3
       ·rw [if_pos hs4] at hr
        simp only [hs4]
        refine S.gx [] ?_
        repeat refine gA ?_
        obtain ⟨v5, hv5, hr⟩ := of_bind1 hr
        try simp only [hv5, oG, oI, true_and, and_assoc]
        repeat refine gA ?_
        refine S.sees [2, 3, 7, 27, 28] [(2, 2), (3, 3)] [] ?_ hr
        exact lf
       ·rw [if_neg hs4] at hr
        first | cases hr | exact hr.elim
   ·have hr := ifN1 hr hc
    repeat refine gA ?_
    have hr := of_out0 hr
    repeat refine gA ?_
    cases hr
    exact lf
theorem f31 : FnFact Tryd.prog 31 T31.sp := ⟨⟨Tryd.f31, Tryd.func31, by decide, rfl⟩, v31⟩
end

/- martensite/steel.shares -/
def r126 (x0 : Int) (x1 : Int) (x2 : Int) (x3 : Int) (x4 : Int) (x5 : Int) (x6 : Int) (x7 : Int) (x8 : Int) (x9 : Int) (x10 : Int) (x11 : Int) (x12 : Int) (x13 : Int) : Option (Int × Int × Int × Int × Int × Int × Int × Int) :=
  some (x0, x1, x2, x3, x4, x5, x6, x7)
def T126 : TSpec qA25 := mkT qE25 qd25 (fun ⟨x0, x1, x2, x3, x4, x5, x6, x7, x8, x9, x10, x11, x12, x13⟩ => r126 x0 x1 x2 x3 x4 x5 x6 x7 x8 x9 x10 x11 x12 x13) qu12 false
theorem TP126 (c0 c1 c2 c3 c4 c5 c6 c7 c8 c9 c10 c11 c12 c13 : D) : T126.sp.pre [.agg [c0, c1, c2, c3, c4, c5, c6, c7, c8, c9, c10, c11, c12, c13]] = (eqvArgs (qt25 c0 c1 c2 c3 c4 c5 c6 c7 c8 c9 c10 c11 c12 c13) (qp25 qw25 c0 c1 c2 c3 c4 c5 c6 c7 c8 c9 c10 c11 c12 c13) ∧ (qp25 r126 c0 c1 c2 c3 c4 c5 c6 c7 c8 c9 c10 c11 c12 c13).isSome = true) := (rfl)
theorem TR126 (c0 c1 c2 c3 c4 c5 c6 c7 c8 c9 c10 c11 c12 c13 : D) : T126.sp.res [.agg [c0, c1, c2, c3, c4, c5, c6, c7, c8, c9, c10, c11, c12, c13]] = qu12 ((qp25 r126 c0 c1 c2 c3 c4 c5 c6 c7 c8 c9 c10 c11 c12 c13).getD default) := (rfl)
theorem TA126 : T126.sp.alias = false := (rfl)
def tb126 : Fns := lk []
theorem tb126_ok : FnsOk Tryd.prog tb126 := FnsOk.nil
attribute [go_sem] TP126 TR126 TA126
section
attribute [local go_sem] T126 Tryd.results126
theorem v126 : Valid Tryd.prog 126 T126.sp := by
 refine valid_t (fn := Tryd.f126) (n := 12) ty_ok tb126_ok Tryd.func126 rfl Tryd.ntmps126 ?_
 rintro ⟨x0, x1, x2, x3, x4, x5, x6, x7, x8, x9, x10, x11, x12, x13⟩ hx
 obtain ⟨r, hr⟩ := oE (show (r126 x0 x1 x2 x3 x4 x5 x6 x7 x8 x9 x10 x11 x12 x13).isSome = true from hx)
 have hres : T126.res (x0, x1, x2, x3, x4, x5, x6, x7, x8, x9, x10, x11, x12, x13) = qu12 r := by simp only [T126, mkT, hr, oG]
 refine ⟨nL rfl, fun stop S => ?_⟩
 rw [hres] at S
 unfold r126 at hr
 refine S.gx [] ?_
 repeat refine gA ?_
 cases hr
 exact lf
theorem f126 : FnFact Tryd.prog 126 T126.sp := ⟨⟨Tryd.f126, Tryd.func126, by decide, rfl⟩, v126⟩
end

/- martensite/steel.CheckBox -/
def r102 (x7 : Int) (x0 : Int) (x8 : Int) (x1 : Int) (x9 : Int) (x2 : Int) (x10 : Int) (x3 : Int) (x11 : Int) (x4 : Int) (x12 : Int) (x5 : Int) (x13 : Int) (x6 : Int) : Option (Int) :=
  (r66 x7 0 1000000).bind fun v1 =>
   if v1 = true → (r66 x0 0 1000000).isSome = true then
    (r68 (v1 && ((r66 x0 0 1000000).getD default)) 2).bind fun v2 =>
     (r68 (decide (x7 ≤ x0)) 9).bind fun v3 =>
      (r67 [v2, v3]).bind fun v4 =>
       if (v4 != 0) = true then
        some v4
        else (r66 x8 0 1000000).bind fun v5 =>
         if v5 = true → (r66 x1 0 1000000).isSome = true then
          (r68 (v5 && ((r66 x1 0 1000000).getD default)) 2).bind fun v6 =>
           (r68 (decide (x8 ≤ x1)) 9).bind fun v7 =>
            (r67 [v6, v7]).bind fun v8 =>
             if (v8 != 0) = true then
              some v8
              else (r66 x9 0 1000000).bind fun v9 =>
               if v9 = true → (r66 x2 0 1000000).isSome = true then
                (r68 (v9 && ((r66 x2 0 1000000).getD default)) 2).bind fun v10 =>
                 (r68 (decide (x9 ≤ x2)) 9).bind fun v11 =>
                  (r67 [v10, v11]).bind fun v12 =>
                   if (v12 != 0) = true then
                    some v12
                    else (r66 x10 0 1000000).bind fun v13 =>
                     if v13 = true → (r66 x3 0 1000000).isSome = true then
                      (r68 (v13 && ((r66 x3 0 1000000).getD default)) 2).bind fun v14 =>
                       (r68 (decide (x10 ≤ x3)) 9).bind fun v15 =>
                        (r67 [v14, v15]).bind fun v16 =>
                         if (v16 != 0) = true then
                          some v16
                          else (r66 x11 0 1000000).bind fun v17 =>
                           if v17 = true → (r66 x4 0 1000000).isSome = true then
                            (r68 (v17 && ((r66 x4 0 1000000).getD default)) 2).bind fun v18 =>
                             (r68 (decide (x11 ≤ x4)) 9).bind fun v19 =>
                              (r67 [v18, v19]).bind fun v20 =>
                               if (v20 != 0) = true then
                                some v20
                                else (r66 x12 0 100000).bind fun v21 =>
                                 if v21 = true → (r66 x5 0 100000).isSome = true then
                                  (r68 (v21 && ((r66 x5 0 100000).getD default)) 2).bind fun v22 =>
                                   (r68 (decide (x12 ≤ x5)) 9).bind fun v23 =>
                                    (r67 [v22, v23]).bind fun v24 =>
                                     if (v24 != 0) = true then
                                      some v24
                                      else (r66 x13 0 1000000).bind fun v25 =>
                                       if v25 = true → (r66 x6 0 1000000).isSome = true then
                                        (r68 (v25 && ((r66 x6 0 1000000).getD default)) 2).bind fun v26 =>
                                         (r68 (decide (x13 ≤ x6)) 9).bind fun v27 =>
                                          (r67 [v26, v27]).bind fun v28 =>
                                           if (v28 != 0) = true then
                                            some v28
                                            else (r126 x7 x0 x8 x1 x9 x2 x10 x3 x11 x4 x12 x5 x13 x6).bind fun v29 =>
                                             (r66 1000000 (IntKind.i64.wrap ((IntKind.i64.wrap ((IntKind.i64.wrap ((IntKind.i64.wrap (0 + v29.1)) + v29.2.2.1)) + v29.2.2.2.2.1)) + v29.2.2.2.2.2.2.1)) (IntKind.i64.wrap ((IntKind.i64.wrap ((IntKind.i64.wrap ((IntKind.i64.wrap (0 + v29.2.1)) + v29.2.2.2.1)) + v29.2.2.2.2.2.1)) + v29.2.2.2.2.2.2.2))).bind fun v30 =>
                                              (r68 v30 12).bind fun v31 =>
                                               some v31
                                        else none
                                  else none
                            else none
                      else none
                else none
          else none
    else none
def T102 : TSpec qA25 := mkT qE25 qd25 (fun ⟨x7, x0, x8, x1, x9, x2, x10, x3, x11, x4, x12, x5, x13, x6⟩ => r102 x7 x0 x8 x1 x9 x2 x10 x3 x11 x4 x12 x5 x13 x6) qu4 false
theorem TP102 (c0 c1 c2 c3 c4 c5 c6 c7 c8 c9 c10 c11 c12 c13 : D) : T102.sp.pre [.agg [c0, c1, c2, c3, c4, c5, c6, c7, c8, c9, c10, c11, c12, c13]] = (eqvArgs (qt25 c0 c1 c2 c3 c4 c5 c6 c7 c8 c9 c10 c11 c12 c13) (qp25 qw25 c0 c1 c2 c3 c4 c5 c6 c7 c8 c9 c10 c11 c12 c13) ∧ (qp25 r102 c0 c1 c2 c3 c4 c5 c6 c7 c8 c9 c10 c11 c12 c13).isSome = true) := (rfl)
theorem TR102 (c0 c1 c2 c3 c4 c5 c6 c7 c8 c9 c10 c11 c12 c13 : D) : T102.sp.res [.agg [c0, c1, c2, c3, c4, c5, c6, c7, c8, c9, c10, c11, c12, c13]] = qu4 ((qp25 r102 c0 c1 c2 c3 c4 c5 c6 c7 c8 c9 c10 c11 c12 c13).getD default) := (rfl)
theorem TA102 : T102.sp.alias = false := (rfl)
def tb102 : Fns := lk [(66, T66.sp), (67, T67.sp), (68, T68.sp), (126, T126.sp)]
theorem tb102_ok : FnsOk Tryd.prog tb102 := .cons f66 (.cons f67 (.cons f68 (.cons f126 (FnsOk.nil))))
theorem tb102_66 : tb102 66 = some T66.sp := rfl
theorem tb102_67 : tb102 67 = some T67.sp := rfl
theorem tb102_68 : tb102 68 = some T68.sp := rfl
theorem tb102_126 : tb102 126 = some T126.sp := rfl
theorem lt102_0 : (decide ((0 : Int) < 7)) = true := by first | rfl | decide | simp
theorem lt102_1 : (IntKind.i64.wrap (0 + 1)) = 1 := by first | rfl | decide | simp
theorem lt102_2 : (decide ((1 : Int) < 7)) = true := by first | rfl | decide | simp
theorem lt102_3 : (((1 : Int) = 0 ∨ (0 : Int) < 1)) = True := by first | rfl | decide | simp
theorem lt102_4 : (IntKind.i64.wrap (1 + 1)) = 2 := by first | rfl | decide | simp
theorem lt102_5 : (decide ((2 : Int) < 7)) = true := by first | rfl | decide | simp
theorem lt102_6 : (((2 : Int) = 0 ∨ (0 : Int) < 2)) = True := by first | rfl | decide | simp
theorem lt102_7 : (IntKind.i64.wrap (2 + 1)) = 3 := by first | rfl | decide | simp
theorem lt102_8 : (decide ((3 : Int) < 7)) = true := by first | rfl | decide | simp
theorem lt102_9 : (((3 : Int) = 0 ∨ (0 : Int) < 3)) = True := by first | rfl | decide | simp
theorem lt102_10 : (IntKind.i64.wrap (3 + 1)) = 4 := by first | rfl | decide | simp
theorem lt102_11 : (decide ((4 : Int) < 7)) = true := by first | rfl | decide | simp
theorem lt102_12 : (((4 : Int) = 0 ∨ (0 : Int) < 4)) = True := by first | rfl | decide | simp
theorem lt102_13 : (IntKind.i64.wrap (4 + 1)) = 5 := by first | rfl | decide | simp
theorem lt102_14 : (decide ((5 : Int) < 7)) = true := by first | rfl | decide | simp
theorem lt102_15 : (((5 : Int) = 0 ∨ (0 : Int) < 5)) = True := by first | rfl | decide | simp
theorem lt102_16 : (IntKind.i64.wrap (5 + 1)) = 6 := by first | rfl | decide | simp
theorem lt102_17 : (decide ((6 : Int) < 7)) = true := by first | rfl | decide | simp
theorem lt102_18 : (((6 : Int) = 0 ∨ (0 : Int) < 6)) = True := by first | rfl | decide | simp
theorem lt102_19 : (IntKind.i64.wrap (6 + 1)) = 7 := by first | rfl | decide | simp
theorem lt102_20 : (decide ((7 : Int) < 7)) = false := by first | rfl | decide | simp
theorem lt102_21 : (decide ((0 : Int) < 4)) = true := by first | rfl | decide | simp
theorem lt102_22 : (decide ((1 : Int) < 4)) = true := by first | rfl | decide | simp
theorem lt102_23 : (decide ((2 : Int) < 4)) = true := by first | rfl | decide | simp
theorem lt102_24 : (decide ((3 : Int) < 4)) = true := by first | rfl | decide | simp
theorem lt102_25 : (decide ((4 : Int) < 4)) = false := by first | rfl | decide | simp
attribute [go_sem] TP102 TR102 TA102
section
attribute [local go_sem] T102 tb102_66 tb102_67 tb102_68 tb102_126 Tryd.results102 Tryd.results125 lt102_0 lt102_1 lt102_2 lt102_3 lt102_4 lt102_5 lt102_6 lt102_7 lt102_8 lt102_9 lt102_10 lt102_11 lt102_12 lt102_13 lt102_14 lt102_15 lt102_16 lt102_17 lt102_18 lt102_19 lt102_20 lt102_21 lt102_22 lt102_23 lt102_24 lt102_25
theorem v102 : Valid Tryd.prog 102 T102.sp := by
 refine valid_t (fn := Tryd.f102) (n := 74) ty_ok tb102_ok Tryd.func102 rfl Tryd.ntmps102 ?_
 rintro ⟨x7, x0, x8, x1, x9, x2, x10, x3, x11, x4, x12, x5, x13, x6⟩ hx
 obtain ⟨r, hr⟩ := oE (show (r102 x7 x0 x8 x1 x9 x2 x10 x3 x11 x4 x12 x5 x13 x6).isSome = true from hx)
 have hres : T102.res (x7, x0, x8, x1, x9, x2, x10, x3, x11, x4, x12, x5, x13, x6) = qu4 r := by simp only [T102, mkT, hr, oG]
 refine ⟨nL rfl, fun stop S => ?_⟩
 rw [hres] at S
 unfold r102 at hr
 refine S.gx [2, 6] ?_
 repeat refine gA ?_
 refine S.inl 0 [1, 3] [] Tryd.func125 (by decide) rfl Tryd.ntmps125 (fun cx e => drawn_ok ty_ok tb102_ok cx e) (some 11) rfl rfl rfl rfl (nL rfl) (nL rfl) ?_
 refine gs ?_
 repeat refine gA ?_
 intro stop1 S1
 refine S1.gx [] ?_
 repeat refine gA ?_
 refine S.gx [2, 6] ?_
 repeat refine gA ?_
 refine S.lp ?_
 refine S.gx [2, 6] ?_
 obtain ⟨v1, hv1, hr⟩ := of_bind0 hr
 obtain ⟨hg38, hr⟩ := of_guard0 hr
 obtain ⟨v2, hv2, hr⟩ := of_bind0 hr
 obtain ⟨v3, hv3, hr⟩ := of_bind0 hr
 obtain ⟨v4, hv4, hr⟩ := of_bind0 hr
 try simp only [hv1, hv2, hv3, hv4, Option.getD_some, Option.isSome_some, true_and, and_assoc]
 repeat (first | refine gG hg38 ?_ | refine gA ?_ | refine gB ?_)
 refine S.prune [1, 3, 6, 11, 12] ?_
 refine S.gx [2] ?_
 repeat refine gA ?_
 refine ⟨?_, ?_⟩ <;> intro hc
 ·have hr := ifP hr hc
  repeat refine gA ?_
  cases hr
  exact lf
 ·have hr := ifN hr hc
  repeat refine gA ?_
  refine S.lp ?_
  refine S.gx [2, 6] ?_
  obtain ⟨v5, hv5, hr⟩ := of_bind0 hr
  obtain ⟨hg37, hr⟩ := of_guard0 hr
  obtain ⟨v6, hv6, hr⟩ := of_bind0 hr
  obtain ⟨v7, hv7, hr⟩ := of_bind0 hr
  obtain ⟨v8, hv8, hr⟩ := of_bind0 hr
  try simp only [hv5, hv6, hv7, hv8, Option.getD_some, Option.isSome_some, true_and, and_assoc]
  repeat (first | refine gG hg37 ?_ | refine gA ?_ | refine gB ?_)
  refine S.prune [1, 3, 6, 11, 12] ?_
  refine S.gx [2] ?_
  repeat refine gA ?_
  refine ⟨?_, ?_⟩ <;> intro hc
  ·have hr := ifP hr hc
   repeat refine gA ?_
   cases hr
   exact lf
  ·have hr := ifN hr hc
   repeat refine gA ?_
   refine S.lp ?_
   refine S.gx [2, 6] ?_
   obtain ⟨v9, hv9, hr⟩ := of_bind0 hr
   obtain ⟨hg36, hr⟩ := of_guard0 hr
   obtain ⟨v10, hv10, hr⟩ := of_bind0 hr
   obtain ⟨v11, hv11, hr⟩ := of_bind0 hr
   obtain ⟨v12, hv12, hr⟩ := of_bind0 hr
   try simp only [hv9, hv10, hv11, hv12, Option.getD_some, Option.isSome_some, true_and, and_assoc]
   repeat (first | refine gG hg36 ?_ | refine gA ?_ | refine gB ?_)
   refine S.prune [1, 3, 6, 11, 12] ?_
   refine S.gx [2] ?_
   repeat refine gA ?_
   refine ⟨?_, ?_⟩ <;> intro hc
   ·have hr := ifP hr hc
    repeat refine gA ?_
    cases hr
    exact lf
   ·have hr := ifN hr hc
    repeat refine gA ?_
    refine S.lp ?_
    refine S.gx [2, 6] ?_
    obtain ⟨v13, hv13, hr⟩ := of_bind0 hr
    obtain ⟨hg35, hr⟩ := of_guard0 hr
    obtain ⟨v14, hv14, hr⟩ := of_bind0 hr
    obtain ⟨v15, hv15, hr⟩ := of_bind0 hr
    obtain ⟨v16, hv16, hr⟩ := of_bind0 hr
    try simp only [hv13, hv14, hv15, hv16, Option.getD_some, Option.isSome_some, true_and, and_assoc]
    repeat (first | refine gG hg35 ?_ | refine gA ?_ | refine gB ?_)
    refine S.prune [1, 3, 6, 11, 12] ?_
    refine S.gx [2] ?_
    repeat refine gA ?_
    refine ⟨?_, ?_⟩ <;> intro hc
    ·have hr := ifP hr hc
     repeat refine gA ?_
     cases hr
     exact lf
    ·have hr := ifN hr hc
     repeat refine gA ?_
     refine S.lp ?_
     refine S.gx [2, 6] ?_
     obtain ⟨v17, hv17, hr⟩ := of_bind0 hr
     obtain ⟨hg34, hr⟩ := of_guard0 hr
     obtain ⟨v18, hv18, hr⟩ := of_bind0 hr
     obtain ⟨v19, hv19, hr⟩ := of_bind0 hr
     obtain ⟨v20, hv20, hr⟩ := of_bind0 hr
     try simp only [hv17, hv18, hv19, hv20, Option.getD_some, Option.isSome_some, true_and, and_assoc]
     repeat (first | refine gG hg34 ?_ | refine gA ?_ | refine gB ?_)
     refine S.prune [1, 3, 6, 11, 12] ?_
     refine S.gx [2] ?_
     repeat refine gA ?_
     refine ⟨?_, ?_⟩ <;> intro hc
     ·have hr := ifP hr hc
      repeat refine gA ?_
      cases hr
      exact lf
     ·have hr := ifN hr hc
      repeat refine gA ?_
      refine S.lp ?_
      refine S.gx [2, 6] ?_
      obtain ⟨v21, hv21, hr⟩ := of_bind0 hr
      obtain ⟨hg33, hr⟩ := of_guard0 hr
      obtain ⟨v22, hv22, hr⟩ := of_bind0 hr
      obtain ⟨v23, hv23, hr⟩ := of_bind0 hr
      obtain ⟨v24, hv24, hr⟩ := of_bind0 hr
      try simp only [hv21, hv22, hv23, hv24, Option.getD_some, Option.isSome_some, true_and, and_assoc]
      repeat (first | refine gG hg33 ?_ | refine gA ?_ | refine gB ?_)
      refine S.prune [1, 3, 6, 11, 12] ?_
      refine S.gx [2] ?_
      repeat refine gA ?_
      refine ⟨?_, ?_⟩ <;> intro hc
      ·have hr := ifP hr hc
       repeat refine gA ?_
       cases hr
       exact lf
      ·have hr := ifN hr hc
       repeat refine gA ?_
       refine S.lp ?_
       refine S.gx [2, 6] ?_
       obtain ⟨v25, hv25, hr⟩ := of_bind0 hr
       obtain ⟨hg32, hr⟩ := of_guard0 hr
       obtain ⟨v26, hv26, hr⟩ := of_bind0 hr
       obtain ⟨v27, hv27, hr⟩ := of_bind0 hr
       obtain ⟨v28, hv28, hr⟩ := of_bind0 hr
       try simp only [hv25, hv26, hv27, hv28, Option.getD_some, Option.isSome_some, true_and, and_assoc]
       repeat (first | refine gG hg32 ?_ | refine gA ?_ | refine gB ?_)
       refine S.prune [1, 3, 6, 11, 12] ?_
       refine S.gx [2] ?_
       repeat refine gA ?_
       refine ⟨?_, ?_⟩ <;> intro hc
       ·have hr := ifP hr hc
        repeat refine gA ?_
        cases hr
        exact lf
       ·have hr := ifN hr hc
        repeat refine gA ?_
        refine S.lp ?_
        refine S.gx [2, 6] ?_
        obtain ⟨v29, hv29, hr⟩ := of_bind0 hr
        try simp only [hv29, oG, oI, true_and, and_assoc]
        repeat refine gA ?_
        refine S.lp ?_
        refine S.gx [2, 6] ?_
        repeat refine gA ?_
        refine S.lp ?_
        refine S.gx [2, 6] ?_
        repeat refine gA ?_
        refine S.lp ?_
        refine S.gx [2, 6] ?_
        repeat refine gA ?_
        refine S.lp ?_
        refine S.gx [2, 6] ?_
        repeat refine gA ?_
        refine S.lp ?_
        refine S.gx [2, 6] ?_
        obtain ⟨v30, hv30, hr⟩ := of_bind0 hr
        obtain ⟨v31, hv31, hr⟩ := of_bind0 hr
        try simp only [hv30, hv31, Option.getD_some, Option.isSome_some, true_and, and_assoc]
        repeat refine gA ?_
        cases hr
        exact lf
theorem f102 : FnFact Tryd.prog 102 T102.sp := ⟨⟨Tryd.f102, Tryd.func102, by decide, rfl⟩, v102⟩
end

/- martensite/steel.filled -/
def b129_2 (x0 : Int) (x4 : Int) (x1 : Int) (x5 : Int) (x2 : Int) (x6 : Int) (x3 : Int) (x7 : Int) (x8 : Int) (x9 : Int) (x10 : Int) (x11 : Int) : (Int × Int × Int × Int × Int × Int × Int) → Ctl (Int × Int × Int × Int × Int × Int × Int) (Int) := fun s2 =>
  if (decide (s2.2.2.2.2.2.2 < 4)) = true then
   if s2.2.2.2.2.2.2 = 0 then
    if s2.2.2.1 = 0 then
     .next (IntKind.i64.wrap (s2.1 - (if IntKind.i64.wrap (x4 - x0) < s2.1 then IntKind.i64.wrap (x4 - x0) else s2.1)), IntKind.i64.wrap (s2.2.1 + (IntKind.i64.wrap ((if IntKind.i64.wrap (x4 - x0) < s2.1 then IntKind.i64.wrap (x4 - x0) else s2.1) * x8))), 0, s2.2.2.2.1, s2.2.2.2.2.1, s2.2.2.2.2.2.1, IntKind.i64.wrap (0 + 1))
     else if s2.2.2.1 = 1 then
      .next (IntKind.i64.wrap (s2.1 - (if IntKind.i64.wrap (x5 - x1) < s2.1 then IntKind.i64.wrap (x5 - x1) else s2.1)), IntKind.i64.wrap (s2.2.1 + (IntKind.i64.wrap ((if IntKind.i64.wrap (x5 - x1) < s2.1 then IntKind.i64.wrap (x5 - x1) else s2.1) * x9))), 1, s2.2.2.2.1, s2.2.2.2.2.1, s2.2.2.2.2.2.1, IntKind.i64.wrap (0 + 1))
      else if s2.2.2.1 = 2 then
       .next (IntKind.i64.wrap (s2.1 - (if IntKind.i64.wrap (x6 - x2) < s2.1 then IntKind.i64.wrap (x6 - x2) else s2.1)), IntKind.i64.wrap (s2.2.1 + (IntKind.i64.wrap ((if IntKind.i64.wrap (x6 - x2) < s2.1 then IntKind.i64.wrap (x6 - x2) else s2.1) * x10))), 2, s2.2.2.2.1, s2.2.2.2.2.1, s2.2.2.2.2.2.1, IntKind.i64.wrap (0 + 1))
       else if s2.2.2.1 = 3 then
        .next (IntKind.i64.wrap (s2.1 - (if IntKind.i64.wrap (x7 - x3) < s2.1 then IntKind.i64.wrap (x7 - x3) else s2.1)), IntKind.i64.wrap (s2.2.1 + (IntKind.i64.wrap ((if IntKind.i64.wrap (x7 - x3) < s2.1 then IntKind.i64.wrap (x7 - x3) else s2.1) * x11))), 3, s2.2.2.2.1, s2.2.2.2.2.1, s2.2.2.2.2.2.1, IntKind.i64.wrap (0 + 1))
        else .out none
    else if s2.2.2.2.2.2.2 = 1 then
     if s2.2.2.2.1 = 0 then
      .next (IntKind.i64.wrap (s2.1 - (if IntKind.i64.wrap (x4 - x0) < s2.1 then IntKind.i64.wrap (x4 - x0) else s2.1)), IntKind.i64.wrap (s2.2.1 + (IntKind.i64.wrap ((if IntKind.i64.wrap (x4 - x0) < s2.1 then IntKind.i64.wrap (x4 - x0) else s2.1) * x8))), s2.2.2.1, 0, s2.2.2.2.2.1, s2.2.2.2.2.2.1, IntKind.i64.wrap (1 + 1))
      else if s2.2.2.2.1 = 1 then
       .next (IntKind.i64.wrap (s2.1 - (if IntKind.i64.wrap (x5 - x1) < s2.1 then IntKind.i64.wrap (x5 - x1) else s2.1)), IntKind.i64.wrap (s2.2.1 + (IntKind.i64.wrap ((if IntKind.i64.wrap (x5 - x1) < s2.1 then IntKind.i64.wrap (x5 - x1) else s2.1) * x9))), s2.2.2.1, 1, s2.2.2.2.2.1, s2.2.2.2.2.2.1, IntKind.i64.wrap (1 + 1))
       else if s2.2.2.2.1 = 2 then
        .next (IntKind.i64.wrap (s2.1 - (if IntKind.i64.wrap (x6 - x2) < s2.1 then IntKind.i64.wrap (x6 - x2) else s2.1)), IntKind.i64.wrap (s2.2.1 + (IntKind.i64.wrap ((if IntKind.i64.wrap (x6 - x2) < s2.1 then IntKind.i64.wrap (x6 - x2) else s2.1) * x10))), s2.2.2.1, 2, s2.2.2.2.2.1, s2.2.2.2.2.2.1, IntKind.i64.wrap (1 + 1))
        else if s2.2.2.2.1 = 3 then
         .next (IntKind.i64.wrap (s2.1 - (if IntKind.i64.wrap (x7 - x3) < s2.1 then IntKind.i64.wrap (x7 - x3) else s2.1)), IntKind.i64.wrap (s2.2.1 + (IntKind.i64.wrap ((if IntKind.i64.wrap (x7 - x3) < s2.1 then IntKind.i64.wrap (x7 - x3) else s2.1) * x11))), s2.2.2.1, 3, s2.2.2.2.2.1, s2.2.2.2.2.2.1, IntKind.i64.wrap (1 + 1))
         else .out none
     else if s2.2.2.2.2.2.2 = 2 then
      if s2.2.2.2.2.1 = 0 then
       .next (IntKind.i64.wrap (s2.1 - (if IntKind.i64.wrap (x4 - x0) < s2.1 then IntKind.i64.wrap (x4 - x0) else s2.1)), IntKind.i64.wrap (s2.2.1 + (IntKind.i64.wrap ((if IntKind.i64.wrap (x4 - x0) < s2.1 then IntKind.i64.wrap (x4 - x0) else s2.1) * x8))), s2.2.2.1, s2.2.2.2.1, 0, s2.2.2.2.2.2.1, IntKind.i64.wrap (2 + 1))
       else if s2.2.2.2.2.1 = 1 then
        .next (IntKind.i64.wrap (s2.1 - (if IntKind.i64.wrap (x5 - x1) < s2.1 then IntKind.i64.wrap (x5 - x1) else s2.1)), IntKind.i64.wrap (s2.2.1 + (IntKind.i64.wrap ((if IntKind.i64.wrap (x5 - x1) < s2.1 then IntKind.i64.wrap (x5 - x1) else s2.1) * x9))), s2.2.2.1, s2.2.2.2.1, 1, s2.2.2.2.2.2.1, IntKind.i64.wrap (2 + 1))
        else if s2.2.2.2.2.1 = 2 then
         .next (IntKind.i64.wrap (s2.1 - (if IntKind.i64.wrap (x6 - x2) < s2.1 then IntKind.i64.wrap (x6 - x2) else s2.1)), IntKind.i64.wrap (s2.2.1 + (IntKind.i64.wrap ((if IntKind.i64.wrap (x6 - x2) < s2.1 then IntKind.i64.wrap (x6 - x2) else s2.1) * x10))), s2.2.2.1, s2.2.2.2.1, 2, s2.2.2.2.2.2.1, IntKind.i64.wrap (2 + 1))
         else if s2.2.2.2.2.1 = 3 then
          .next (IntKind.i64.wrap (s2.1 - (if IntKind.i64.wrap (x7 - x3) < s2.1 then IntKind.i64.wrap (x7 - x3) else s2.1)), IntKind.i64.wrap (s2.2.1 + (IntKind.i64.wrap ((if IntKind.i64.wrap (x7 - x3) < s2.1 then IntKind.i64.wrap (x7 - x3) else s2.1) * x11))), s2.2.2.1, s2.2.2.2.1, 3, s2.2.2.2.2.2.1, IntKind.i64.wrap (2 + 1))
          else .out none
      else if s2.2.2.2.2.2.2 = 3 then
       if s2.2.2.2.2.2.1 = 0 then
        .next (IntKind.i64.wrap (s2.1 - (if IntKind.i64.wrap (x4 - x0) < s2.1 then IntKind.i64.wrap (x4 - x0) else s2.1)), IntKind.i64.wrap (s2.2.1 + (IntKind.i64.wrap ((if IntKind.i64.wrap (x4 - x0) < s2.1 then IntKind.i64.wrap (x4 - x0) else s2.1) * x8))), s2.2.2.1, s2.2.2.2.1, s2.2.2.2.2.1, 0, IntKind.i64.wrap (3 + 1))
        else if s2.2.2.2.2.2.1 = 1 then
         .next (IntKind.i64.wrap (s2.1 - (if IntKind.i64.wrap (x5 - x1) < s2.1 then IntKind.i64.wrap (x5 - x1) else s2.1)), IntKind.i64.wrap (s2.2.1 + (IntKind.i64.wrap ((if IntKind.i64.wrap (x5 - x1) < s2.1 then IntKind.i64.wrap (x5 - x1) else s2.1) * x9))), s2.2.2.1, s2.2.2.2.1, s2.2.2.2.2.1, 1, IntKind.i64.wrap (3 + 1))
         else if s2.2.2.2.2.2.1 = 2 then
          .next (IntKind.i64.wrap (s2.1 - (if IntKind.i64.wrap (x6 - x2) < s2.1 then IntKind.i64.wrap (x6 - x2) else s2.1)), IntKind.i64.wrap (s2.2.1 + (IntKind.i64.wrap ((if IntKind.i64.wrap (x6 - x2) < s2.1 then IntKind.i64.wrap (x6 - x2) else s2.1) * x10))), s2.2.2.1, s2.2.2.2.1, s2.2.2.2.2.1, 2, IntKind.i64.wrap (3 + 1))
          else if s2.2.2.2.2.2.1 = 3 then
           .next (IntKind.i64.wrap (s2.1 - (if IntKind.i64.wrap (x7 - x3) < s2.1 then IntKind.i64.wrap (x7 - x3) else s2.1)), IntKind.i64.wrap (s2.2.1 + (IntKind.i64.wrap ((if IntKind.i64.wrap (x7 - x3) < s2.1 then IntKind.i64.wrap (x7 - x3) else s2.1) * x11))), s2.2.2.1, s2.2.2.2.1, s2.2.2.2.2.1, 3, IntKind.i64.wrap (3 + 1))
           else .out none
       else .out none
   else .out (some (IntKind.i64.wrap (s2.2.1.tdiv 1000000)))
def b129_1 (x0 : Int) (x4 : Int) (x1 : Int) (x5 : Int) (x2 : Int) (x6 : Int) (x3 : Int) (x7 : Int) (x8 : Int) (x9 : Int) (x10 : Int) (x11 : Int) (x12 : Int) (x13 : Int) (x14 : Int) (x15 : Int) : (Int × Int × Int) → Ctl (Int × Int × Int) (Int) := fun s1 =>
  if (decide (s1.2.2 < 4)) = true then
   if s1.2.2 = 0 then
    .next (IntKind.i64.wrap (s1.1 - x0), IntKind.i64.wrap (s1.2.1 + (IntKind.i64.wrap (x0 * x8))), IntKind.i64.wrap (0 + 1))
    else if s1.2.2 = 1 then
     .next (IntKind.i64.wrap (s1.1 - x1), IntKind.i64.wrap (s1.2.1 + (IntKind.i64.wrap (x1 * x9))), IntKind.i64.wrap (1 + 1))
     else if s1.2.2 = 2 then
      .next (IntKind.i64.wrap (s1.1 - x2), IntKind.i64.wrap (s1.2.1 + (IntKind.i64.wrap (x2 * x10))), IntKind.i64.wrap (2 + 1))
      else if s1.2.2 = 3 then
       .next (IntKind.i64.wrap (s1.1 - x3), IntKind.i64.wrap (s1.2.1 + (IntKind.i64.wrap (x3 * x11))), IntKind.i64.wrap (3 + 1))
       else .out none
   else .out (iterC (b129_2 x0 x4 x1 x5 x2 x6 x3 x7 x8 x9 x10 x11) 1000000000 (s1.1, s1.2.1, x12, x13, x14, x15, 0))
def r129 (x0 : Int) (x4 : Int) (x1 : Int) (x5 : Int) (x2 : Int) (x6 : Int) (x3 : Int) (x7 : Int) (x8 : Int) (x9 : Int) (x10 : Int) (x11 : Int) (x12 : Int) (x13 : Int) (x14 : Int) (x15 : Int) : Option (Int) :=
  iterC (b129_1 x0 x4 x1 x5 x2 x6 x3 x7 x8 x9 x10 x11 x12 x13 x14 x15) 1000000000 (1000000, 0, 0)
def T129 : TSpec qA26 := mkT qE26 qd26 (fun ⟨x0, x4, x1, x5, x2, x6, x3, x7, x8, x9, x10, x11, x12, x13, x14, x15⟩ => r129 x0 x4 x1 x5 x2 x6 x3 x7 x8 x9 x10 x11 x12 x13 x14 x15) qu4 false
theorem TP129 (c0 c1 c2 c3 c4 c5 c6 c7 c8 c9 c10 c11 c12 c13 c14 c15 : D) : T129.sp.pre [.agg [c0, c1, c2, c3, c4, c5, c6, c7], .agg [c8, c9, c10, c11], .agg [c12, c13, c14, c15]] = (eqvArgs (qt26 c0 c1 c2 c3 c4 c5 c6 c7 c8 c9 c10 c11 c12 c13 c14 c15) (qp26 qw26 c0 c1 c2 c3 c4 c5 c6 c7 c8 c9 c10 c11 c12 c13 c14 c15) ∧ (qp26 r129 c0 c1 c2 c3 c4 c5 c6 c7 c8 c9 c10 c11 c12 c13 c14 c15).isSome = true) := (rfl)
theorem TR129 (c0 c1 c2 c3 c4 c5 c6 c7 c8 c9 c10 c11 c12 c13 c14 c15 : D) : T129.sp.res [.agg [c0, c1, c2, c3, c4, c5, c6, c7], .agg [c8, c9, c10, c11], .agg [c12, c13, c14, c15]] = qu4 ((qp26 r129 c0 c1 c2 c3 c4 c5 c6 c7 c8 c9 c10 c11 c12 c13 c14 c15).getD default) := (rfl)
theorem TA129 : T129.sp.alias = false := (rfl)
def tb129 : Fns := lk []
theorem tb129_ok : FnsOk Tryd.prog tb129 := FnsOk.nil
theorem lt129_0 : (((3 : Int) = 0 ∨ (0 : Int) < 3)) = True := by first | rfl | decide | simp
theorem lt129_1 : (((2 : Int) = 0 ∨ (0 : Int) < 2)) = True := by first | rfl | decide | simp
theorem lt129_2 : (((1 : Int) = 0 ∨ (0 : Int) < 1)) = True := by first | rfl | decide | simp
attribute [go_sem] TP129 TR129 TA129
section
attribute [local go_sem] T129 Tryd.results129 lt129_0 lt129_1 lt129_2
theorem v129 : Valid Tryd.prog 129 T129.sp := by
 refine valid_t (fn := Tryd.f129) (n := 60) ty_ok tb129_ok Tryd.func129 rfl Tryd.ntmps129 ?_
 rintro ⟨x0, x4, x1, x5, x2, x6, x3, x7, x8, x9, x10, x11, x12, x13, x14, x15⟩ hx
 obtain ⟨r, hr⟩ := oE (show (r129 x0 x4 x1 x5 x2 x6 x3 x7 x8 x9 x10 x11 x12 x13 x14 x15).isSome = true from hx)
 have hres : T129.res (x0, x4, x1, x5, x2, x6, x3, x7, x8, x9, x10, x11, x12, x13, x14, x15) = qu4 r := by simp only [T129, mkT, hr, oG]
 refine ⟨nL rfl, fun stop S => ?_⟩
 rw [hres] at S
 unfold r129 at hr
 refine S.gx [4, 10, 11] ?_
 repeat refine gA ?_
 refine S.sees [3, 4, 5, 7, 8, 14, 15] [(3, 3), (4, 4), (5, 5)] [] ?_ (Stop.iter S (fun s1 => ⟨[(3, .c (.ref 3 0)), (4, .c (.ref 4 0)), (5, .c (.ref 5 0)), (7, .c (.d (.int .i64 s1.1))), (8, .c (.d (.int .i64 s1.2.1))), (14, .agg [.d (.int .i64 x0), .d (.int .i64 x4), .d (.int .i64 x1), .d (.int .i64 x5), .d (.int .i64 x2), .d (.int .i64 x6), .d (.int .i64 x3), .d (.int .i64 x7)]), (15, .c (.d (.int .i64 s1.2.2)))], [(3, [.d (.int .i64 x0), .d (.int .i64 x4), .d (.int .i64 x1), .d (.int .i64 x5), .d (.int .i64 x2), .d (.int .i64 x6), .d (.int .i64 x3), .d (.int .i64 x7)]), (4, [.d (.int .i64 x8), .d (.int .i64 x9), .d (.int .i64 x10), .d (.int .i64 x11)]), (5, [.d (.int .i64 x12), .d (.int .i64 x13), .d (.int .i64 x14), .d (.int .i64 x15)])], []⟩) (b129_1 x0 x4 x1 x5 x2 x6 x3 x7 x8 x9 x10 x11 x12 x13 x14 x15) (fun q => q = r) hr rfl ?_)
 ·exact lf
 ·intro s1 hr
  unfold b129_1 at hr
  refine S.gx [4, 10, 11] ?_
  repeat refine gA ?_
  refine ⟨?_, ?_⟩ <;> intro hc
  ·have hr := ifP1 hr hc
   repeat refine gA ?_
   by_cases hs4 : s1.2.2 = 0
   ·rw [if_pos hs4] at hr
    simp only [hs4]
    refine S.gx [10, 11] ?_
    repeat refine gA ?_
    refine S.sees [3, 4, 5, 7, 8, 14, 15] [(3, 3), (4, 4), (5, 5)] [] ?_ hr
    exact lf
   ·rw [if_neg hs4] at hr
    by_cases hs3 : s1.2.2 = 1
    ·rw [if_pos hs3] at hr
     simp only [hs3]
     refine S.gx [10, 11] ?_
     repeat refine gA ?_
     refine S.sees [3, 4, 5, 7, 8, 14, 15] [(3, 3), (4, 4), (5, 5)] [] ?_ hr
     exact lf
    ·rw [if_neg hs3] at hr
     by_cases hs2 : s1.2.2 = 2
     ·rw [if_pos hs2] at hr
      simp only [hs2]
      refine S.gx [10, 11] ?_
      repeat refine gA ?_
      refine S.sees [3, 4, 5, 7, 8, 14, 15] [(3, 3), (4, 4), (5, 5)] [] ?_ hr
      exact lf
     ·rw [if_neg hs2] at hr
      by_cases hs1 : s1.2.2 = 3
      ·rw [if_pos hs1] at hr
       simp only [hs1]
       refine S.gx [10, 11] ?_
       repeat refine gA ?_
       refine S.sees [3, 4, 5, 7, 8, 14, 15] [(3, 3), (4, 4), (5, 5)] [] ?_ hr
       exact lf
      ·rw [if_neg hs1] at hr
       first | cases hr | exact hr.elim
  ·have hr := ifN1 hr hc
   repeat refine gA ?_
   have hr := of_out0 hr
   repeat refine gA ?_
   refine S.sees [3, 4, 7, 8, 32, 33] [(3, 3), (4, 4)] [] ?_ (Stop.iter S (fun s2 => ⟨[(3, .c (.ref 3 0)), (4, .c (.ref 4 0)), (7, .c (.d (.int .i64 s2.1))), (8, .c (.d (.int .i64 s2.2.1))), (32, .agg [.d (.int .i64 s2.2.2.1), .d (.int .i64 s2.2.2.2.1), .d (.int .i64 s2.2.2.2.2.1), .d (.int .i64 s2.2.2.2.2.2.1)]), (33, .c (.d (.int .i64 s2.2.2.2.2.2.2)))], [(3, [.d (.int .i64 x0), .d (.int .i64 x4), .d (.int .i64 x1), .d (.int .i64 x5), .d (.int .i64 x2), .d (.int .i64 x6), .d (.int .i64 x3), .d (.int .i64 x7)]), (4, [.d (.int .i64 x8), .d (.int .i64 x9), .d (.int .i64 x10), .d (.int .i64 x11)])], []⟩) (b129_2 x0 x4 x1 x5 x2 x6 x3 x7 x8 x9 x10 x11) (fun q => q = r) hr rfl ?_)
   ·exact lf
   ·intro s2 hr
    unfold b129_2 at hr
    refine S.gx [4, 10, 11] ?_
    repeat refine gA ?_
    refine ⟨?_, ?_⟩ <;> intro hc
    ·have hr := ifP1 hr hc
     repeat refine gA ?_
     by_cases hs20 : s2.2.2.2.2.2.2 = 0
     ·rw [if_pos hs20] at hr
      simp only [hs20]
      refine S.gx [4, 11] ?_
      repeat refine gA ?_
      by_cases hs24 : s2.2.2.1 = 0
      ·rw [if_pos hs24] at hr
       simp only [hs24]
       refine S.gx [4, 10] ?_
       repeat refine gA ?_
       refine S.sees [3, 4, 7, 8, 32, 33] [(3, 3), (4, 4)] [] ?_ hr
       exact lf
      ·rw [if_neg hs24] at hr
       by_cases hs23 : s2.2.2.1 = 1
       ·rw [if_pos hs23] at hr
        simp only [hs23]
        refine S.gx [4, 10] ?_
        repeat refine gA ?_
        refine S.sees [3, 4, 7, 8, 32, 33] [(3, 3), (4, 4)] [] ?_ hr
        exact lf
       ·rw [if_neg hs23] at hr
        by_cases hs22 : s2.2.2.1 = 2
        ·rw [if_pos hs22] at hr
         simp only [hs22]
         refine S.gx [4, 10] ?_
         repeat refine gA ?_
         refine S.sees [3, 4, 7, 8, 32, 33] [(3, 3), (4, 4)] [] ?_ hr
         exact lf
        ·rw [if_neg hs22] at hr
         by_cases hs21 : s2.2.2.1 = 3
         ·rw [if_pos hs21] at hr
          simp only [hs21]
          refine S.gx [4, 10] ?_
          repeat refine gA ?_
          refine S.sees [3, 4, 7, 8, 32, 33] [(3, 3), (4, 4)] [] ?_ hr
          exact lf
         ·rw [if_neg hs21] at hr
          first | cases hr | exact hr.elim
     ·rw [if_neg hs20] at hr
      by_cases hs15 : s2.2.2.2.2.2.2 = 1
      ·rw [if_pos hs15] at hr
       simp only [hs15]
       refine S.gx [4, 11] ?_
       repeat refine gA ?_
       by_cases hs19 : s2.2.2.2.1 = 0
       ·rw [if_pos hs19] at hr
        simp only [hs19]
        refine S.gx [4, 10] ?_
        repeat refine gA ?_
        refine S.sees [3, 4, 7, 8, 32, 33] [(3, 3), (4, 4)] [] ?_ hr
        exact lf
       ·rw [if_neg hs19] at hr
        by_cases hs18 : s2.2.2.2.1 = 1
        ·rw [if_pos hs18] at hr
         simp only [hs18]
         refine S.gx [4, 10] ?_
         repeat refine gA ?_
         refine S.sees [3, 4, 7, 8, 32, 33] [(3, 3), (4, 4)] [] ?_ hr
         exact lf
        ·rw [if_neg hs18] at hr
         by_cases hs17 : s2.2.2.2.1 = 2
         ·rw [if_pos hs17] at hr
          simp only [hs17]
          refine S.gx [4, 10] ?_
          repeat refine gA ?_
          refine S.sees [3, 4, 7, 8, 32, 33] [(3, 3), (4, 4)] [] ?_ hr
          exact lf
         ·rw [if_neg hs17] at hr
          by_cases hs16 : s2.2.2.2.1 = 3
          ·rw [if_pos hs16] at hr
           simp only [hs16]
           refine S.gx [4, 10] ?_
           repeat refine gA ?_
           refine S.sees [3, 4, 7, 8, 32, 33] [(3, 3), (4, 4)] [] ?_ hr
           exact lf
          ·rw [if_neg hs16] at hr
           first | cases hr | exact hr.elim
      ·rw [if_neg hs15] at hr
       by_cases hs10 : s2.2.2.2.2.2.2 = 2
       ·rw [if_pos hs10] at hr
        simp only [hs10]
        refine S.gx [4, 11] ?_
        repeat refine gA ?_
        by_cases hs14 : s2.2.2.2.2.1 = 0
        ·rw [if_pos hs14] at hr
         simp only [hs14]
         refine S.gx [4, 10] ?_
         repeat refine gA ?_
         refine S.sees [3, 4, 7, 8, 32, 33] [(3, 3), (4, 4)] [] ?_ hr
         exact lf
        ·rw [if_neg hs14] at hr
         by_cases hs13 : s2.2.2.2.2.1 = 1
         ·rw [if_pos hs13] at hr
          simp only [hs13]
          refine S.gx [4, 10] ?_
          repeat refine gA ?_
          refine S.sees [3, 4, 7, 8, 32, 33] [(3, 3), (4, 4)] [] ?_ hr
          exact lf
         ·rw [if_neg hs13] at hr
          by_cases hs12 : s2.2.2.2.2.1 = 2
          ·rw [if_pos hs12] at hr
           simp only [hs12]
           refine S.gx [4, 10] ?_
           repeat refine gA ?_
           refine S.sees [3, 4, 7, 8, 32, 33] [(3, 3), (4, 4)] [] ?_ hr
           exact lf
          ·rw [if_neg hs12] at hr
           by_cases hs11 : s2.2.2.2.2.1 = 3
           ·rw [if_pos hs11] at hr
            simp only [hs11]
            refine S.gx [4, 10] ?_
            repeat refine gA ?_
            refine S.sees [3, 4, 7, 8, 32, 33] [(3, 3), (4, 4)] [] ?_ hr
            exact lf
           ·rw [if_neg hs11] at hr
            first | cases hr | exact hr.elim
       ·rw [if_neg hs10] at hr
        by_cases hs5 : s2.2.2.2.2.2.2 = 3
        ·rw [if_pos hs5] at hr
         simp only [hs5]
         refine S.gx [4, 11] ?_
         repeat refine gA ?_
         by_cases hs9 : s2.2.2.2.2.2.1 = 0
         ·rw [if_pos hs9] at hr
          simp only [hs9]
          refine S.gx [4, 10] ?_
          repeat refine gA ?_
          refine S.sees [3, 4, 7, 8, 32, 33] [(3, 3), (4, 4)] [] ?_ hr
          exact lf
         ·rw [if_neg hs9] at hr
          by_cases hs8 : s2.2.2.2.2.2.1 = 1
          ·rw [if_pos hs8] at hr
           simp only [hs8]
           refine S.gx [4, 10] ?_
           repeat refine gA ?_
           refine S.sees [3, 4, 7, 8, 32, 33] [(3, 3), (4, 4)] [] ?_ hr
           exact lf
          ·rw [if_neg hs8] at hr
           by_cases hs7 : s2.2.2.2.2.2.1 = 2
           ·rw [if_pos hs7] at hr
            simp only [hs7]
            refine S.gx [4, 10] ?_
            repeat refine gA ?_
            refine S.sees [3, 4, 7, 8, 32, 33] [(3, 3), (4, 4)] [] ?_ hr
            exact lf
           ·rw [if_neg hs7] at hr
            by_cases hs6 : s2.2.2.2.2.2.1 = 3
            ·rw [if_pos hs6] at hr
             simp only [hs6]
             refine S.gx [4, 10] ?_
             repeat refine gA ?_
             refine S.sees [3, 4, 7, 8, 32, 33] [(3, 3), (4, 4)] [] ?_ hr
             exact lf
            ·rw [if_neg hs6] at hr
             first | cases hr | exact hr.elim
        ·rw [if_neg hs5] at hr
         first | cases hr | exact hr.elim
    ·have hr := ifN1 hr hc
     repeat refine gA ?_
     have hr := of_out0 hr
     repeat refine gA ?_
     cases hr
     exact lf
theorem f129 : FnFact Tryd.prog 129 T129.sp := ⟨⟨Tryd.f129, Tryd.func129, by decide, rfl⟩, v129⟩
end

/- (martensite/steel.rules).band -/
def r105 (x0 : List (Int × Int × Int × Int)) (x1 : List (Int × Int × Int × Int × Int)) (x2 : List (Int × Int × Int)) (x3 : List (Int × Int)) (x4 : Int) (x5 : Int) (x6 : Int) (x7 : Int) (x10 : Int) (x11 : Int) (x12 : Int) (x13 : Int) (x14 : Int) (x15 : Int) (x16 : Int) (x17 : Int) (x18 : Int) (x19 : Int) (x20 : Int) (x21 : Int) (x8 : Int) (x9 : Int) : Option (Int × Int) :=
  (r126 x10 x11 x12 x13 x14 x15 x16 x17 x18 x19 x20 x21 x8 x9).bind fun v1 =>
   (r86 x0 x1 x2 x3 x4 x5 x6 x7 x9).bind fun v2 =>
    (r129 v1.1 v1.2.1 v1.2.2.1 v1.2.2.2.1 v1.2.2.2.2.1 v1.2.2.2.2.2.1 v1.2.2.2.2.2.2.1 v1.2.2.2.2.2.2.2 v2.1 v2.2.1 v2.2.2.1 v2.2.2.2 0 1 2 3).bind fun v3 =>
     (r86 x0 x1 x2 x3 x4 x5 x6 x7 x8).bind fun v4 =>
      (r129 v1.1 v1.2.1 v1.2.2.1 v1.2.2.2.1 v1.2.2.2.2.1 v1.2.2.2.2.2.1 v1.2.2.2.2.2.2.1 v1.2.2.2.2.2.2.2 v4.1 v4.2.1 v4.2.2.1 v4.2.2.2 3 2 1 0).bind fun v5 =>
       some (v3, v5)
def T105 : TSpec qA27 := mkT qE27 qd27 (fun ⟨x0, x1, x2, x3, x4, x5, x6, x7, x10, x11, x12, x13, x14, x15, x16, x17, x18, x19, x20, x21, x8, x9⟩ => r105 x0 x1 x2 x3 x4 x5 x6 x7 x10 x11 x12 x13 x14 x15 x16 x17 x18 x19 x20 x21 x8 x9) qu13 false
theorem TP105 (c0 c1 c2 c3 c4 c5 c6 c7 c8 c9 c10 c11 c12 c13 c14 c15 c16 c17 c18 c19 c20 c21 : D) : T105.sp.pre [.agg [c0, c1, c2, c3, c4, c5, c6, c7], .agg [c8, c9, c10, c11, c12, c13, c14, c15, c16, c17, c18, c19, c20, c21]] = (eqvArgs (qt27 c0 c1 c2 c3 c4 c5 c6 c7 c8 c9 c10 c11 c12 c13 c14 c15 c16 c17 c18 c19 c20 c21) (qp27 qw27 c0 c1 c2 c3 c4 c5 c6 c7 c8 c9 c10 c11 c12 c13 c14 c15 c16 c17 c18 c19 c20 c21) ∧ (qp27 r105 c0 c1 c2 c3 c4 c5 c6 c7 c8 c9 c10 c11 c12 c13 c14 c15 c16 c17 c18 c19 c20 c21).isSome = true) := (rfl)
theorem TR105 (c0 c1 c2 c3 c4 c5 c6 c7 c8 c9 c10 c11 c12 c13 c14 c15 c16 c17 c18 c19 c20 c21 : D) : T105.sp.res [.agg [c0, c1, c2, c3, c4, c5, c6, c7], .agg [c8, c9, c10, c11, c12, c13, c14, c15, c16, c17, c18, c19, c20, c21]] = qu13 ((qp27 r105 c0 c1 c2 c3 c4 c5 c6 c7 c8 c9 c10 c11 c12 c13 c14 c15 c16 c17 c18 c19 c20 c21).getD default) := (rfl)
theorem TA105 : T105.sp.alias = false := (rfl)
def tb105 : Fns := lk [(86, T86.sp), (126, T126.sp), (129, T129.sp)]
theorem tb105_ok : FnsOk Tryd.prog tb105 := .cons f86 (.cons f126 (.cons f129 (FnsOk.nil)))
theorem tb105_86 : tb105 86 = some T86.sp := rfl
theorem tb105_126 : tb105 126 = some T126.sp := rfl
theorem tb105_129 : tb105 129 = some T129.sp := rfl
attribute [go_sem] TP105 TR105 TA105
section
attribute [local go_sem] T105 tb105_86 tb105_126 tb105_129 Tryd.results105
theorem v105 : Valid Tryd.prog 105 T105.sp := by
 refine valid_t (fn := Tryd.f105) (n := 28) ty_ok tb105_ok Tryd.func105 rfl Tryd.ntmps105 ?_
 rintro ⟨x0, x1, x2, x3, x4, x5, x6, x7, x10, x11, x12, x13, x14, x15, x16, x17, x18, x19, x20, x21, x8, x9⟩ hx
 obtain ⟨r, hr⟩ := oE (show (r105 x0 x1 x2 x3 x4 x5 x6 x7 x10 x11 x12 x13 x14 x15 x16 x17 x18 x19 x20 x21 x8 x9).isSome = true from hx)
 have hres : T105.res (x0, x1, x2, x3, x4, x5, x6, x7, x10, x11, x12, x13, x14, x15, x16, x17, x18, x19, x20, x21, x8, x9) = qu13 r := by simp only [T105, mkT, hr, oG]
 refine ⟨nL rfl, fun stop S => ?_⟩
 rw [hres] at S
 unfold r105 at hr
 refine S.gx [] ?_
 obtain ⟨v1, hv1, hr⟩ := of_bind0 hr
 obtain ⟨v2, hv2, hr⟩ := of_bind0 hr
 obtain ⟨v3, hv3, hr⟩ := of_bind0 hr
 obtain ⟨v4, hv4, hr⟩ := of_bind0 hr
 obtain ⟨v5, hv5, hr⟩ := of_bind0 hr
 try simp only [hv1, hv2, hv3, hv4, hv5, Option.getD_some, Option.isSome_some, true_and, and_assoc]
 repeat refine gA ?_
 cases hr
 exact lf
theorem f105 : FnFact Tryd.prog 105 T105.sp := ⟨⟨Tryd.f105, Tryd.func105, by decide, rfl⟩, v105⟩
end
end Go.Proofs.YtfkmbdfajpdjjaaDoor

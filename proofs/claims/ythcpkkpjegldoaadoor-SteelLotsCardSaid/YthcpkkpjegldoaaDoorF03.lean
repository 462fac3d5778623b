/- Contracts of functions, written by wip/dec. -/
import Derived.Test.YthcpkkpjegldoaaDoorF00
import Derived.Test.YthcpkkpjegldoaaDoorF01
import Derived.Test.YthcpkkpjegldoaaDoorF02
set_option linter.unusedVariables false
set_option linter.unusedSimpArgs false
set_option linter.constructorNameAsVariable false
set_option maxHeartbeats 4000000
set_option maxRecDepth 20000
namespace Go.Proofs.YthcpkkpjegldoaaDoor
open Go.Abs
section
variable {β : Type} [Inhabited β] (u : β → List RV) (al : Bool)
abbrev qF18 (β : Type) := Int → Int → Int → Int → β
def qw18 (a0 a1 a2 a3 : Int) : List Arg := [.agg [.int .i64 a0, .int .i64 a1, .int .i64 a2], .ptr [.int .i64 a3]]
def qd18 (a : List Arg) := (dInt (aCell a 0 0), dInt (aCell a 0 1), dInt (aCell a 0 2), dInt (aCell a 1 0))
def qp18 {β : Type} (f : qF18 β) (c0 c1 c2 c3 : D) := f (dInt c0) (dInt c1) (dInt c2) (dInt c3)
abbrev qt18 (c0 c1 c2 c3 : D) : List Arg := [.agg [c0, c1, c2], .ptr [c3]]
def qT18 (r : qF18 (Option β)) := mkT (u4 qw18) qd18 (u4 r) u al
theorem qP18 (r : qF18 (Option β)) (c0 c1 c2 c3 : D) : PT (qT18 u al r).sp u (qt18 c0 c1 c2 c3) (qp18 qw18 c0 c1 c2 c3) (qp18 r c0 c1 c2 c3) := ⟨rfl, rfl⟩
theorem qa18 (r : qF18 (Option β)) : (qT18 u al r).sp.alias = al := rfl
attribute [go_sem] qw18 qp18 qt18 qP18 qa18
abbrev qF19 (β : Type) := L_III → Int → β
def qw19 (a0 : L_III) (a1 : Int) : List Arg := [.c (encF 3 d_III a0), .clo 74 [[.int .i64 a1]]]
def qd19 (a : List Arg) := (decF g_III (aCell a 0 0), dInt (aCell a 1 0))
def qp19 {β : Type} (f : qF19 β) (c0 c1 : D) := f (decF g_III c0) (dInt c1)
abbrev qt19 (c0 c1 : D) : List Arg := [.c c0, .clo 74 [[c1]]]
def qT19 (r : qF19 (Option β)) := mkT (u2 qw19) qd19 (u2 r) u al
theorem qP19 (r : qF19 (Option β)) (c0 c1 : D) : PT (qT19 u al r).sp u (qt19 c0 c1) (qp19 qw19 c0 c1) (qp19 r c0 c1) := ⟨rfl, rfl⟩
theorem qa19 (r : qF19 (Option β)) : (qT19 u al r).sp.alias = al := rfl
attribute [go_sem] qw19 qp19 qt19 qP19 qa19
abbrev qF20 (β : Type) := Int → Int → Int → β
def qw20 (a0 a1 a2 : Int) : List Arg := [.agg [.int .i64 a0, .int .i64 a1], .ptr [.int .i64 a2]]
def qd20 (a : List Arg) := (dInt (aCell a 0 0), dInt (aCell a 0 1), dInt (aCell a 1 0))
def qp20 {β : Type} (f : qF20 β) (c0 c1 c2 : D) := f (dInt c0) (dInt c1) (dInt c2)
abbrev qt20 (c0 c1 c2 : D) : List Arg := [.agg [c0, c1], .ptr [c2]]
def qT20 (r : qF20 (Option β)) := mkT (u3 qw20) qd20 (u3 r) u al
theorem qP20 (r : qF20 (Option β)) (c0 c1 c2 : D) : PT (qT20 u al r).sp u (qt20 c0 c1 c2) (qp20 qw20 c0 c1 c2) (qp20 r c0 c1 c2) := ⟨rfl, rfl⟩
theorem qa20 (r : qF20 (Option β)) : (qT20 u al r).sp.alias = al := rfl
attribute [go_sem] qw20 qp20 qt20 qP20 qa20
abbrev qF21 (β : Type) := L_IIII → L_IIIII → L_III → L_II → Int → Int → Int → Int → Int → Int → Int → Int → Int → Int → Int → Int → Int → Int → Int → β
def qw21 (a0 : L_IIII) (a1 : L_IIIII) (a2 : L_III) (a3 : L_II) (a4 a5 a6 a7 a8 a9 a10 a11 a12 a13 a14 a15 a16 a17 a18 : Int) : List Arg := [.agg [encF 4 d_IIII a0, encF 5 d_IIIII a1, encF 3 d_III a2, encF 2 d_II a3, .int .i64 a4, .int .i64 a5, .int .i64 a6, .int .i64 a7], .agg [.int .i64 a8, .int .i64 a9, .int .i64 a10, .int .i64 a11, .int .i64 a12, .int .i64 a13, .int .i64 a14], .c (.int .i64 a15), .agg [.int .i64 a16, .int .i64 a17, .int .i64 a18]]
def qd21 (a : List Arg) := (decF g_IIII (aCell a 0 0), decF g_IIIII (aCell a 0 1), decF g_III (aCell a 0 2), decF g_II (aCell a 0 3), dInt (aCell a 0 4), dInt (aCell a 0 5), dInt (aCell a 0 6), dInt (aCell a 0 7), dInt (aCell a 1 0), dInt (aCell a 1 1), dInt (aCell a 1 2), dInt (aCell a 1 3), dInt (aCell a 1 4), dInt (aCell a 1 5), dInt (aCell a 1 6), dInt (aCell a 2 0), dInt (aCell a 3 0), dInt (aCell a 3 1), dInt (aCell a 3 2))
def qp21 {β : Type} (f : qF21 β) (c0 c1 c2 c3 c4 c5 c6 c7 c8 c9 c10 c11 c12 c13 c14 c15 c16 c17 c18 : D) := f (decF g_IIII c0) (decF g_IIIII c1) (decF g_III c2) (decF g_II c3) (dInt c4) (dInt c5) (dInt c6) (dInt c7) (dInt c8) (dInt c9) (dInt c10) (dInt c11) (dInt c12) (dInt c13) (dInt c14) (dInt c15) (dInt c16) (dInt c17) (dInt c18)
abbrev qt21 (c0 c1 c2 c3 c4 c5 c6 c7 c8 c9 c10 c11 c12 c13 c14 c15 c16 c17 c18 : D) : List Arg := [.agg [c0, c1, c2, c3, c4, c5, c6, c7], .agg [c8, c9, c10, c11, c12, c13, c14], .c c15, .agg [c16, c17, c18]]
def qT21 (r : qF21 (Option β)) := mkT (u19 qw21) qd21 (u19 r) u al
theorem qP21 (r : qF21 (Option β)) (c0 c1 c2 c3 c4 c5 c6 c7 c8 c9 c10 c11 c12 c13 c14 c15 c16 c17 c18 : D) : PT (qT21 u al r).sp u (qt21 c0 c1 c2 c3 c4 c5 c6 c7 c8 c9 c10 c11 c12 c13 c14 c15 c16 c17 c18) (qp21 qw21 c0 c1 c2 c3 c4 c5 c6 c7 c8 c9 c10 c11 c12 c13 c14 c15 c16 c17 c18) (qp21 r c0 c1 c2 c3 c4 c5 c6 c7 c8 c9 c10 c11 c12 c13 c14 c15 c16 c17 c18) := ⟨rfl, rfl⟩
theorem qa21 (r : qF21 (Option β)) : (qT21 u al r).sp.alias = al := rfl
attribute [go_sem] qw21 qp21 qt21 qP21 qa21
abbrev qF22 (β : Type) := L_IIII → L_IIIII → L_III → L_II → Int → Int → Int → Int → Int → Int → Int → Int → Int → Int → Int → L_I → Int → Int → Int → β
def qw22 (a0 : L_IIII) (a1 : L_IIIII) (a2 : L_III) (a3 : L_II) (a4 a5 a6 a7 a8 a9 a10 a11 a12 a13 a14 : Int) (a15 : L_I) (a16 a17 a18 : Int) : List Arg := [.agg [encF 4 d_IIII a0, encF 5 d_IIIII a1, encF 3 d_III a2, encF 2 d_II a3, .int .i64 a4, .int .i64 a5, .int .i64 a6, .int .i64 a7], .agg [.int .i64 a8, .int .i64 a9, .int .i64 a10, .int .i64 a11, .int .i64 a12, .int .i64 a13, .int .i64 a14], .c (encF 1 d_I a15), .agg [.int .i64 a16, .int .i64 a17, .int .i64 a18]]
def qd22 (a : List Arg) := (decF g_IIII (aCell a 0 0), decF g_IIIII (aCell a 0 1), decF g_III (aCell a 0 2), decF g_II (aCell a 0 3), dInt (aCell a 0 4), dInt (aCell a 0 5), dInt (aCell a 0 6), dInt (aCell a 0 7), dInt (aCell a 1 0), dInt (aCell a 1 1), dInt (aCell a 1 2), dInt (aCell a 1 3), dInt (aCell a 1 4), dInt (aCell a 1 5), dInt (aCell a 1 6), decF g_I (aCell a 2 0), dInt (aCell a 3 0), dInt (aCell a 3 1), dInt (aCell a 3 2))
def qp22 {β : Type} (f : qF22 β) (c0 c1 c2 c3 c4 c5 c6 c7 c8 c9 c10 c11 c12 c13 c14 c15 c16 c17 c18 : D) := f (decF g_IIII c0) (decF g_IIIII c1) (decF g_III c2) (decF g_II c3) (dInt c4) (dInt c5) (dInt c6) (dInt c7) (dInt c8) (dInt c9) (dInt c10) (dInt c11) (dInt c12) (dInt c13) (dInt c14) (decF g_I c15) (dInt c16) (dInt c17) (dInt c18)
abbrev qt22 (c0 c1 c2 c3 c4 c5 c6 c7 c8 c9 c10 c11 c12 c13 c14 c15 c16 c17 c18 : D) : List Arg := [.agg [c0, c1, c2, c3, c4, c5, c6, c7], .agg [c8, c9, c10, c11, c12, c13, c14], .c c15, .agg [c16, c17, c18]]
def qT22 (r : qF22 (Option β)) := mkT (u19 qw22) qd22 (u19 r) u al
theorem qP22 (r : qF22 (Option β)) (c0 c1 c2 c3 c4 c5 c6 c7 c8 c9 c10 c11 c12 c13 c14 c15 c16 c17 c18 : D) : PT (qT22 u al r).sp u (qt22 c0 c1 c2 c3 c4 c5 c6 c7 c8 c9 c10 c11 c12 c13 c14 c15 c16 c17 c18) (qp22 qw22 c0 c1 c2 c3 c4 c5 c6 c7 c8 c9 c10 c11 c12 c13 c14 c15 c16 c17 c18) (qp22 r c0 c1 c2 c3 c4 c5 c6 c7 c8 c9 c10 c11 c12 c13 c14 c15 c16 c17 c18) := ⟨rfl, rfl⟩
theorem qa22 (r : qF22 (Option β)) : (qT22 u al r).sp.alias = al := rfl
attribute [go_sem] qw22 qp22 qt22 qP22 qa22
abbrev qF23 (β : Type) := L_IIII → L_IIIII → L_III → L_II → Int → Int → Int → Int → Int → Int → Int → Int → Int → Int → Int → L_I → Int → Int → Int → β
def qw23 (a0 : L_IIII) (a1 : L_IIIII) (a2 : L_III) (a3 : L_II) (a4 a5 a6 a7 a8 a9 a10 a11 a12 a13 a14 : Int) (a15 : L_I) (a16 a17 a18 : Int) : List Arg := [.agg [encF 4 d_IIII a0, encF 5 d_IIIII a1, encF 3 d_III a2, encF 2 d_II a3, .int .i64 a4, .int .i64 a5, .int .i64 a6, .int .i64 a7], .agg [.int .i64 a8, .int .i64 a9, .int .i64 a10, .int .i64 a11, .int .i64 a12, .int .i64 a13, .int .i64 a14], .agg [encF 1 d_I a15, .int .i64 a16, .int .i64 a17, .int .i64 a18]]
def qd23 (a : List Arg) := (decF g_IIII (aCell a 0 0), decF g_IIIII (aCell a 0 1), decF g_III (aCell a 0 2), decF g_II (aCell a 0 3), dInt (aCell a 0 4), dInt (aCell a 0 5), dInt (aCell a 0 6), dInt (aCell a 0 7), dInt (aCell a 1 0), dInt (aCell a 1 1), dInt (aCell a 1 2), dInt (aCell a 1 3), dInt (aCell a 1 4), dInt (aCell a 1 5), dInt (aCell a 1 6), decF g_I (aCell a 2 0), dInt (aCell a 2 1), dInt (aCell a 2 2), dInt (aCell a 2 3))
def qp23 {β : Type} (f : qF23 β) (c0 c1 c2 c3 c4 c5 c6 c7 c8 c9 c10 c11 c12 c13 c14 c15 c16 c17 c18 : D) := f (decF g_IIII c0) (decF g_IIIII c1) (decF g_III c2) (decF g_II c3) (dInt c4) (dInt c5) (dInt c6) (dInt c7) (dInt c8) (dInt c9) (dInt c10) (dInt c11) (dInt c12) (dInt c13) (dInt c14) (decF g_I c15) (dInt c16) (dInt c17) (dInt c18)
abbrev qt23 (c0 c1 c2 c3 c4 c5 c6 c7 c8 c9 c10 c11 c12 c13 c14 c15 c16 c17 c18 : D) : List Arg := [.agg [c0, c1, c2, c3, c4, c5, c6, c7], .agg [c8, c9, c10, c11, c12, c13, c14], .agg [c15, c16, c17, c18]]
def qT23 (r : qF23 (Option β)) := mkT (u19 qw23) qd23 (u19 r) u al
theorem qP23 (r : qF23 (Option β)) (c0 c1 c2 c3 c4 c5 c6 c7 c8 c9 c10 c11 c12 c13 c14 c15 c16 c17 c18 : D) : PT (qT23 u al r).sp u (qt23 c0 c1 c2 c3 c4 c5 c6 c7 c8 c9 c10 c11 c12 c13 c14 c15 c16 c17 c18) (qp23 qw23 c0 c1 c2 c3 c4 c5 c6 c7 c8 c9 c10 c11 c12 c13 c14 c15 c16 c17 c18) (qp23 r c0 c1 c2 c3 c4 c5 c6 c7 c8 c9 c10 c11 c12 c13 c14 c15 c16 c17 c18) := ⟨rfl, rfl⟩
theorem qa23 (r : qF23 (Option β)) : (qT23 u al r).sp.alias = al := rfl
attribute [go_sem] qw23 qp23 qt23 qP23 qa23
abbrev qF24 (β : Type) := L_IIII → L_IIIII → L_III → L_II → Int → Int → Int → Int → Int → Int → Int → Int → Int → Int → Int → β
def qw24 (a0 : L_IIII) (a1 : L_IIIII) (a2 : L_III) (a3 : L_II) (a4 a5 a6 a7 a8 a9 a10 a11 a12 a13 a14 : Int) : List Arg := [.agg [encF 4 d_IIII a0, encF 5 d_IIIII a1, encF 3 d_III a2, encF 2 d_II a3, .int .i64 a4, .int .i64 a5, .int .i64 a6, .int .i64 a7], .agg [.int .i64 a8, .int .i64 a9, .int .i64 a10, .int .i64 a11, .int .i64 a12, .int .i64 a13, .int .i64 a14]]
def qd24 (a : List Arg) := (decF g_IIII (aCell a 0 0), decF g_IIIII (aCell a 0 1), decF g_III (aCell a 0 2), decF g_II (aCell a 0 3), dInt (aCell a 0 4), dInt (aCell a 0 5), dInt (aCell a 0 6), dInt (aCell a 0 7), dInt (aCell a 1 0), dInt (aCell a 1 1), dInt (aCell a 1 2), dInt (aCell a 1 3), dInt (aCell a 1 4), dInt (aCell a 1 5), dInt (aCell a 1 6))
def qp24 {β : Type} (f : qF24 β) (c0 c1 c2 c3 c4 c5 c6 c7 c8 c9 c10 c11 c12 c13 c14 : D) := f (decF g_IIII c0) (decF g_IIIII c1) (decF g_III c2) (decF g_II c3) (dInt c4) (dInt c5) (dInt c6) (dInt c7) (dInt c8) (dInt c9) (dInt c10) (dInt c11) (dInt c12) (dInt c13) (dInt c14)
abbrev qt24 (c0 c1 c2 c3 c4 c5 c6 c7 c8 c9 c10 c11 c12 c13 c14 : D) : List Arg := [.agg [c0, c1, c2, c3, c4, c5, c6, c7], .agg [c8, c9, c10, c11, c12, c13, c14]]
def qT24 (r : qF24 (Option β)) := mkT (u15 qw24) qd24 (u15 r) u al
theorem qP24 (r : qF24 (Option β)) (c0 c1 c2 c3 c4 c5 c6 c7 c8 c9 c10 c11 c12 c13 c14 : D) : PT (qT24 u al r).sp u (qt24 c0 c1 c2 c3 c4 c5 c6 c7 c8 c9 c10 c11 c12 c13 c14) (qp24 qw24 c0 c1 c2 c3 c4 c5 c6 c7 c8 c9 c10 c11 c12 c13 c14) (qp24 r c0 c1 c2 c3 c4 c5 c6 c7 c8 c9 c10 c11 c12 c13 c14) := ⟨rfl, rfl⟩
theorem qa24 (r : qF24 (Option β)) : (qT24 u al r).sp.alias = al := rfl
attribute [go_sem] qw24 qp24 qt24 qP24 qa24
abbrev qF25 (β : Type) := Int → Int → Int → Int → Int → Int → Int → Int → Int → Int → Int → Int → Int → Int → β
def qw25 (a0 a1 a2 a3 a4 a5 a6 a7 a8 a9 a10 a11 a12 a13 : Int) : List Arg := [.agg [.int .i64 a0, .int .i64 a1, .int .i64 a2, .int .i64 a3, .int .i64 a4, .int .i64 a5, .int .i64 a6, .int .i64 a7, .int .i64 a8, .int .i64 a9, .int .i64 a10, .int .i64 a11, .int .i64 a12, .int .i64 a13]]
def qd25 (a : List Arg) := (dInt (aCell a 0 0), dInt (aCell a 0 1), dInt (aCell a 0 2), dInt (aCell a 0 3), dInt (aCell a 0 4), dInt (aCell a 0 5), dInt (aCell a 0 6), dInt (aCell a 0 7), dInt (aCell a 0 8), dInt (aCell a 0 9), dInt (aCell a 0 10), dInt (aCell a 0 11), dInt (aCell a 0 12), dInt (aCell a 0 13))
def qp25 {β : Type} (f : qF25 β) (c0 c1 c2 c3 c4 c5 c6 c7 c8 c9 c10 c11 c12 c13 : D) := f (dInt c0) (dInt c1) (dInt c2) (dInt c3) (dInt c4) (dInt c5) (dInt c6) (dInt c7) (dInt c8) (dInt c9) (dInt c10) (dInt c11) (dInt c12) (dInt c13)
abbrev qt25 (c0 c1 c2 c3 c4 c5 c6 c7 c8 c9 c10 c11 c12 c13 : D) : List Arg := [.agg [c0, c1, c2, c3, c4, c5, c6, c7, c8, c9, c10, c11, c12, c13]]
def qT25 (r : qF25 (Option β)) := mkT (u14 qw25) qd25 (u14 r) u al
theorem qP25 (r : qF25 (Option β)) (c0 c1 c2 c3 c4 c5 c6 c7 c8 c9 c10 c11 c12 c13 : D) : PT (qT25 u al r).sp u (qt25 c0 c1 c2 c3 c4 c5 c6 c7 c8 c9 c10 c11 c12 c13) (qp25 qw25 c0 c1 c2 c3 c4 c5 c6 c7 c8 c9 c10 c11 c12 c13) (qp25 r c0 c1 c2 c3 c4 c5 c6 c7 c8 c9 c10 c11 c12 c13) := ⟨rfl, rfl⟩
theorem qa25 (r : qF25 (Option β)) : (qT25 u al r).sp.alias = al := rfl
attribute [go_sem] qw25 qp25 qt25 qP25 qa25
abbrev qF26 (β : Type) := Int → Int → Int → Int → Int → Int → Int → Int → Int → Int → Int → Int → Int → Int → Int → Int → β
def qw26 (a0 a1 a2 a3 a4 a5 a6 a7 a8 a9 a10 a11 a12 a13 a14 a15 : Int) : List Arg := [.agg [.int .i64 a0, .int .i64 a1, .int .i64 a2, .int .i64 a3, .int .i64 a4, .int .i64 a5, .int .i64 a6, .int .i64 a7], .agg [.int .i64 a8, .int .i64 a9, .int .i64 a10, .int .i64 a11], .agg [.int .i64 a12, .int .i64 a13, .int .i64 a14, .int .i64 a15]]
def qd26 (a : List Arg) := (dInt (aCell a 0 0), dInt (aCell a 0 1), dInt (aCell a 0 2), dInt (aCell a 0 3), dInt (aCell a 0 4), dInt (aCell a 0 5), dInt (aCell a 0 6), dInt (aCell a 0 7), dInt (aCell a 1 0), dInt (aCell a 1 1), dInt (aCell a 1 2), dInt (aCell a 1 3), dInt (aCell a 2 0), dInt (aCell a 2 1), dInt (aCell a 2 2), dInt (aCell a 2 3))
def qp26 {β : Type} (f : qF26 β) (c0 c1 c2 c3 c4 c5 c6 c7 c8 c9 c10 c11 c12 c13 c14 c15 : D) := f (dInt c0) (dInt c1) (dInt c2) (dInt c3) (dInt c4) (dInt c5) (dInt c6) (dInt c7) (dInt c8) (dInt c9) (dInt c10) (dInt c11) (dInt c12) (dInt c13) (dInt c14) (dInt c15)
abbrev qt26 (c0 c1 c2 c3 c4 c5 c6 c7 c8 c9 c10 c11 c12 c13 c14 c15 : D) : List Arg := [.agg [c0, c1, c2, c3, c4, c5, c6, c7], .agg [c8, c9, c10, c11], .agg [c12, c13, c14, c15]]
def qT26 (r : qF26 (Option β)) := mkT (u16 qw26) qd26 (u16 r) u al
theorem qP26 (r : qF26 (Option β)) (c0 c1 c2 c3 c4 c5 c6 c7 c8 c9 c10 c11 c12 c13 c14 c15 : D) : PT (qT26 u al r).sp u (qt26 c0 c1 c2 c3 c4 c5 c6 c7 c8 c9 c10 c11 c12 c13 c14 c15) (qp26 qw26 c0 c1 c2 c3 c4 c5 c6 c7 c8 c9 c10 c11 c12 c13 c14 c15) (qp26 r c0 c1 c2 c3 c4 c5 c6 c7 c8 c9 c10 c11 c12 c13 c14 c15) := ⟨rfl, rfl⟩
theorem qa26 (r : qF26 (Option β)) : (qT26 u al r).sp.alias = al := rfl
attribute [go_sem] qw26 qp26 qt26 qP26 qa26
def qu8 (v : (Option (Int × Int × Int))) : List RV := [.c (.d (encP d_III v))]
attribute [go_sem] qu8
def qu9 (v : (Option (Int × Int))) : List RV := [.c (.d (encP d_II v))]
attribute [go_sem] qu9
def qu10 (v : Int × Int × Int × Int × Int × Int × Int × Int) : List RV := [.agg [.d (.int .i64 v.1), .d (.int .i64 v.2.1), .d (.int .i64 v.2.2.1), .d (.int .i64 v.2.2.2.1), .d (.int .i64 v.2.2.2.2.1), .d (.int .i64 v.2.2.2.2.2.1), .d (.int .i64 v.2.2.2.2.2.2.1)], .c (.d (.int .i64 v.2.2.2.2.2.2.2))]
attribute [go_sem] qu10
def qu11 (v : Int × Int × Int × Int) : List RV := [.agg [.d (.int .i64 v.1), .d (.int .i64 v.2.1), .d (.int .i64 v.2.2.1), .d (.int .i64 v.2.2.2)]]
attribute [go_sem] qu11
def qu12 (v : Int × Int × Int × Int × Int × Int × Int × Int) : List RV := [.agg [.d (.int .i64 v.1), .d (.int .i64 v.2.1), .d (.int .i64 v.2.2.1), .d (.int .i64 v.2.2.2.1), .d (.int .i64 v.2.2.2.2.1), .d (.int .i64 v.2.2.2.2.2.1), .d (.int .i64 v.2.2.2.2.2.2.1), .d (.int .i64 v.2.2.2.2.2.2.2)]]
attribute [go_sem] qu12
end
/- (martensite/steel.rules).cold$1 -/
def r74 (x0 x2 x3 x1 : Int) : Option (Bool) :=
  some (decide (x0 ≥ x1))
def T74 := qT18 qu3 false r74
attribute [go_sem] T74
def tb74 : Fns := lk []
theorem tb74_ok : FnsOk Tryd.prog tb74 := FnsOk.nil
section
attribute [local go_sem] Tryd.results74
theorem f74 : FnFact Tryd.prog 74 T74.sp := by
  refine valid_m ty_ok tb74_ok Tryd.func74 rfl Tryd.ntmps74 fun ⟨x0, x2, x3, x1⟩ r hr => ⟨nL rfl, fun stop S => ?_⟩
  replace hr : r74 x0 x2 x3 x1 = some r := hr
  unfold r74 at hr
  refine S.gx [] ?_
  exact D0 hr
end

/- slices.IndexFunc[[]martensite/api.SteelCold,martensite/api.SteelCold] -/
def b80_1 (a0 : L_III) (x0 : Int) : Bd Int Int := fun s1 =>
  if (decide (s1 < (a0.length : Int))) = true then
   if 0 ≤ s1 ∧ s1 < (a0.length : Int) then
    bindC (r74 ((a0.getD s1.toNat default).1) ((a0.getD s1.toNat default).2.1) ((a0.getD s1.toNat default).2.2) x0) fun v1 =>
     if v1 = true then
      .out (some s1)
      else .next (IntKind.i64.wrap (s1 + 1))
    else .out none
   else .out (some (-1))
def r80 (a0 : L_III) (x0 : Int) : Option (Int) :=
  iterC (b80_1 a0 x0) 1000000000 0
def T80 := qT19 qu4 false r80
attribute [go_sem] T80
def tb80 : Fns := lk [(74, T74.sp)]
theorem tb80_ok : FnsOk Tryd.prog tb80 := .cons f74 .nil
theorem tk80 : tb80 74 = some T74.sp := rfl
section
attribute [local go_sem] tk80 Tryd.results80
theorem f80 : FnFact Tryd.prog 80 T80.sp := by
  refine valid_m ty_ok tb80_ok Tryd.func80 rfl Tryd.ntmps80 fun ⟨a0, x0⟩ r hr => ⟨nL rfl, fun stop S => ?_⟩
  replace hr : r80 a0 x0 = some r := hr
  unfold r80 at hr
  refine S.gx [] ?_
  refine gr ?_
  refine S.sees [0, 1, 7, 8] [] [] ?_ (Stop.iter S (fun s1 => ⟨[(0, .c (.d (encF 3 d_III a0))), (1, .c (.clo 74 [.sptr [.int .i64 x0] 0])), (7, .c (.d (.int .i64 (a0.length : Int)))), (8, .c (.d (.int .i64 s1)))], [], []⟩) (b80_1 a0 x0) (fun q => q = r) hr rfl ?_)
  · exact lf
  · intro s1 hr
    unfold b80_1 at hr
    refine S.gx [] ?_
    exact D1 (S.ss [0, 1, 7, 8] [] []) hr
end

/- (martensite/steel.rules).cold -/
def r62 (x1 : L_IIII) (x2 : L_IIIII) (x0 : L_III) (x3 : L_II) (x4 x5 x6 x7 a1 : Int) : Option ((Option (Int × Int × Int))) :=
  (r80 x0 a1).bind fun v1 =>
   if (decide (v1 ≥ 0)) = true then
    if 0 ≤ v1 ∧ v1 < (x0.length : Int) then
     some (some ((x0.getD v1.toNat default).1, (x0.getD v1.toNat default).2.1, (x0.getD v1.toNat default).2.2))
     else none
    else some none
def T62 := qT14 qu8 true r62
attribute [go_sem] T62
def tb62 : Fns := lk [(80, T80.sp)]
theorem tb62_ok : FnsOk Tryd.prog tb62 := .cons f80 .nil
theorem tk62 : tb62 80 = some T80.sp := rfl
section
attribute [local go_sem] tk62 Tryd.results62 Tryd.results73
theorem f62 : FnFact Tryd.prog 62 T62.sp := by
  refine valid_m ty_ok tb62_ok Tryd.func62 rfl Tryd.ntmps62 fun ⟨x1, x2, x0, x3, x4, x5, x6, x7, a1⟩ r hr => ⟨nL rfl, fun stop S => ?_⟩
  replace hr : r62 x1 x2 x0 x3 x4 x5 x6 x7 a1 = some r := hr
  unfold r62 at hr
  refine S.gx [1] ?_
  refine gr ?_
  refine S.inl 4 [4] [] Tryd.func73 (by decide) rfl Tryd.ntmps73 (fun cx e => drawn_ok ty_ok tb62_ok cx e) (some 9) rfl rfl rfl rfl (nL rfl) (nL rfl) ?_
  refine gs ?_
  refine gr ?_
  intro stop1 S1
  refine S1.gx [] ?_
  obtain ⟨v1, hv1, hr⟩ := of_bind0 hr
  refine gb hv1 ?_
  refine iW hr (fun hc hr => ?_) fun hc hr => ?_
  · obtain ⟨hg2, hr⟩ := of_guard0 hr
    refine gr ?_
    refine gr ?_
    refine S.gx [1] ?_
    exact D0 hr
  · refine gr ?_
    refine gr ?_
    refine S.gx [1] ?_
    exact D0 hr
end

/- martensite/steel.martensite -/
def r63 (a0 a1 a2 : Int) : Option (Int) :=
  some (if a1 < IntKind.i64.wrap ((IntKind.i64.wrap ((IntKind.i64.wrap (a0 + a1)) * a2)).tdiv 1000000) then IntKind.i64.wrap ((IntKind.i64.wrap ((IntKind.i64.wrap (a0 + a1)) * a2)).tdiv 1000000) else a1)
def T63 := qT2 qu4 false r63
attribute [go_sem] T63
def tb63 : Fns := lk []
theorem tb63_ok : FnsOk Tryd.prog tb63 := FnsOk.nil
section
attribute [local go_sem] Tryd.results63
theorem f63 : FnFact Tryd.prog 63 T63.sp := by
  refine valid_m ty_ok tb63_ok Tryd.func63 rfl Tryd.ntmps63 fun ⟨a0, a1, a2⟩ r hr => ⟨nL rfl, fun stop S => ?_⟩
  replace hr : r63 a0 a1 a2 = some r := hr
  unfold r63 at hr
  refine S.gx [] ?_
  exact D0 hr
end

/- (martensite/steel.rules).temper$1 -/
def r76 (x0 x2 x1 : Int) : Option (Bool) :=
  some (decide (x0 ≤ x1))
def T76 := qT20 qu3 false r76
attribute [go_sem] T76
def tb76 : Fns := lk []
theorem tb76_ok : FnsOk Tryd.prog tb76 := FnsOk.nil
section
attribute [local go_sem] Tryd.results76
theorem f76 : FnFact Tryd.prog 76 T76.sp := by
  refine valid_m ty_ok tb76_ok Tryd.func76 rfl Tryd.ntmps76 fun ⟨x0, x2, x1⟩ r hr => ⟨nL rfl, fun stop S => ?_⟩
  replace hr : r76 x0 x2 x1 = some r := hr
  unfold r76 at hr
  refine S.gx [] ?_
  exact D0 hr
end

/- (martensite/steel.rules).temper -/
def b64_1 (x0 : L_II) (a1 : Int) : Bd Int (Option (Int × Int)) := fun s1 =>
  if (decide (s1 ≥ 0)) = true then
   if 0 ≤ s1 ∧ s1 < (x0.length : Int) then
    if 0 ≤ s1 ∧ s1 < (x0.length : Int) then
     bindC (r76 ((x0.getD s1.toNat default).1) ((x0.getD s1.toNat default).2) a1) fun v1 =>
      if v1 = true then
       if 0 ≤ s1 ∧ s1 < (x0.length : Int) then
        .out (some (some ((x0.getD s1.toNat default).1, (x0.getD s1.toNat default).2)))
        else .out none
       else .next (IntKind.i64.wrap (s1 - 1))
     else .out none
    else .out none
   else .out (some none)
def r64 (x1 : L_IIII) (x2 : L_IIIII) (x3 : L_III) (x0 : L_II) (x4 x5 x6 x7 a1 : Int) : Option ((Option (Int × Int))) :=
  iterC (b64_1 x0 a1) 1000000000 (IntKind.i64.wrap ((x0.length : Int) - 1))
def T64 := qT14 qu9 true r64
attribute [go_sem] T64
def tb64 : Fns := lk [(76, T76.sp)]
theorem tb64_ok : FnsOk Tryd.prog tb64 := .cons f76 .nil
theorem tk64 : tb64 76 = some T76.sp := rfl
section
attribute [local go_sem] tk64 Tryd.results64 Tryd.results75 Tryd.results81 Tryd.results83
theorem f64 : FnFact Tryd.prog 64 T64.sp := by
  refine valid_m ty_ok tb64_ok Tryd.func64 rfl Tryd.ntmps64 fun ⟨x1, x2, x3, x0, x4, x5, x6, x7, a1⟩ r hr => ⟨nL rfl, fun stop S => ?_⟩
  replace hr : r64 x1 x2 x3 x0 x4 x5 x6 x7 a1 = some r := hr
  unfold r64 at hr
  refine S.gx [1] ?_
  refine gr ?_
  refine S.inl 4 [4] [] Tryd.func75 (by decide) rfl Tryd.ntmps75 (fun cx e => drawn_ok ty_ok tb64_ok cx e) (some 9) rfl rfl rfl rfl (nL rfl) (nL rfl) ?_
  refine gs ?_
  refine gr ?_
  intro stop1 S1
  refine S1.gx [1, 3] ?_
  refine gr ?_
  refine S1.inl 1 [2, 3, 4] [] Tryd.func81 (by decide) rfl Tryd.ntmps81 (fun cx e => drawn_ok ty_ok tb64_ok cx e) (some 7) rfl rfl rfl rfl (nL rfl) (nL rfl) ?_
  refine gs ?_
  refine gr ?_
  intro stop2 S2
  refine S2.gx [] ?_
  refine gr ?_
  refine gr ?_
  refine S1.gx [1, 3] ?_
  refine gr ?_
  refine S1.range [2, 3, 4] Tryd.func83 (by decide) rfl Tryd.ntmps83 Tryd.results83 (fun cx e => drawn_ok ty_ok tb64_ok cx e) (fun cx e => drawn_ok ty_ok tb64_ok cx e) (by decide) rfl rfl (nL rfl) ?_
  intro l2 stop2 stopJ2 S2 SJ2 Y2
  refine S2.gx [3] ?_
  refine gr ?_
  refine S2.sees [0, 1, 3] [(1, 1), (100002, 100002), (100003, 100003), (4, 4), (3, 3)] [] ?_ (Stop.iter S2 (fun s1 => ⟨[(0, .c (.yld l2)), (1, .c (.ref 1 0)), (3, .c (.d (.int .i64 s1)))], [(1, [.d (encF 2 d_II x0)]), (100002, [.d (encF 2 d_II x0)]), (100003, [.clo 76 [.ref 3 0]]), (4, [.d (encP d_II none)]), (3, [.d (.int .i64 a1)])], []⟩) (b64_1 x0 a1) (fun q => q = r) hr rfl ?_)
  · exact lf
  · intro s1 hr
    unfold b64_1 at hr
    refine S2.gx [3] ?_
    refine gr ?_
    refine iW1 hr (fun hc hr => ?_) fun hc hr => ?_
    · refine gr ?_
      refine Y2 6 [0, 1, 3] (some 17) rfl rfl rfl rfl (nL rfl) (by rfl) ?_
      refine gs ?_
      obtain ⟨hg4, hr⟩ := of_guard1 hr
      refine gr ?_
      intro stopA3 SA3
      refine SA3.gx [] ?_
      refine gr ?_
      intro stop3 S3
      refine S3.gx [1, 3] ?_
      refine gr ?_
      refine S3.gx [1] ?_
      obtain ⟨hg3, hr⟩ := of_guard1 hr
      obtain ⟨v1, hv1, hr⟩ := of_bind1 hr
      refine gb hv1 ?_
      refine gr ?_
      refine iW1 hr (fun hc hr => ?_) fun hc hr => ?_
      · obtain ⟨hg2, hr⟩ := of_guard1 hr
        refine gr ?_
        refine gr ?_
        refine (SJ2 .ret).gx [3] ?_
        refine gr ?_
        have hr := of_out0 hr
        refine gr ?_
        refine S1.gx [1, 3] ?_
        refine gr ?_
        refine gr ?_
        refine S.gx [1] ?_
        exact D0 hr
      · refine gr ?_
        refine gr ?_
        refine S2.gx [3] ?_
        exact D1 (S2.ss [0, 1, 3] [(1, 1), (100002, 100002), (100003, 100003), (4, 4), (3, 3)] []) hr
    · refine gr ?_
      have hr := of_out0 hr
      refine gr ?_
      refine gr ?_
      refine S1.gx [1, 3] ?_
      refine gr ?_
      refine gr ?_
      refine S.gx [1] ?_
      exact D0 hr
end

/- (martensite/steel.rules).step -/
def r50 (x7 : L_IIII) (x8 : L_IIIII) (x9 : L_III) (x10 : L_II) (x11 x12 x13 x14 x2 x0 x3 x1 x4 x6 x5 a2 x17 x16 x15 : Int) : Option (Int × Int × Int × Int × Int × Int × Int) :=
  (r59 x7 x8 x9 x10 x11 x12 x13 x14 a2).bind fun v1 =>
   if v1.isSome = true then
    if v1.isSome = true then
     if v1.isSome = true then
      (r60 ((v1.getD default).2.1) ((v1.getD default).2.2.1) x17).bind fun v2 =>
       if (decide ((IntKind.i64.wrap (x0 + (if v2 < IntKind.i64.wrap (x2 + (IntKind.i64.wrap (x3 + x1))) then v2 else IntKind.i64.wrap (x2 + (IntKind.i64.wrap (x3 + x1)))))) > 0)) = true then
        if v1.isSome = true then
         if v1.isSome = true then
          some (IntKind.i64.wrap ((IntKind.i64.wrap (x2 + (IntKind.i64.wrap (x3 + x1)))) - (if v2 < IntKind.i64.wrap (x2 + (IntKind.i64.wrap (x3 + x1))) then v2 else IntKind.i64.wrap (x2 + (IntKind.i64.wrap (x3 + x1))))), IntKind.i64.wrap (x0 + (if v2 < IntKind.i64.wrap (x2 + (IntKind.i64.wrap (x3 + x1))) then v2 else IntKind.i64.wrap (x2 + (IntKind.i64.wrap (x3 + x1))))), 0, 0, 0, (if IntKind.i64.wrap (x6 + ((v1.getD default).2.2.2)) < 100000 then IntKind.i64.wrap (x6 + ((v1.getD default).2.2.2)) else 100000), 0)
          else none
         else none
        else some (IntKind.i64.wrap ((IntKind.i64.wrap (x2 + (IntKind.i64.wrap (x3 + x1)))) - (if v2 < IntKind.i64.wrap (x2 + (IntKind.i64.wrap (x3 + x1))) then v2 else IntKind.i64.wrap (x2 + (IntKind.i64.wrap (x3 + x1))))), IntKind.i64.wrap (x0 + (if v2 < IntKind.i64.wrap (x2 + (IntKind.i64.wrap (x3 + x1))) then v2 else IntKind.i64.wrap (x2 + (IntKind.i64.wrap (x3 + x1))))), 0, 0, 0, x6, 0)
      else none
     else none
    else (r61 x7 x8 x9 x10 x11 x12 x13 x14 a2).bind fun v7 =>
     if v7.isSome = true then
      if v7.isSome = true then
       if v7.isSome = true then
        (r60 ((v7.getD default).2.1) ((v7.getD default).2.2.1) x16).bind fun v8 =>
         if ((if IntKind.i64.wrap (x4 + v8) < 1000000 then IntKind.i64.wrap (x4 + v8) else 1000000) == 1000000) = true then
          if v7.isSome = true then
           if v7.isSome = true then
            (r60 ((v7.getD default).2.2.2.1) ((v7.getD default).2.2.2.2) x16).bind fun v9 =>
             (r62 x7 x8 x9 x10 x11 x12 x13 x14 a2).bind fun v10 =>
              if v10.isSome = true then
               if v10.isSome = true then
                if v10.isSome = true then
                 (r60 ((v10.getD default).2.1) ((v10.getD default).2.2) x15).bind fun v11 =>
                  (r63 (IntKind.i64.wrap (x0 - (if v9 < x0 then v9 else x0))) x1 v11).bind fun v12 =>
                   (r64 x7 x8 x9 x10 x11 x12 x13 x14 a2).bind fun v13 =>
                    if v13.isSome = true then
                     if v13.isSome = true then
                      if v13.isSome = true then
                       some (x2, IntKind.i64.wrap ((IntKind.i64.wrap (x0 - (if v9 < x0 then v9 else x0))) - (IntKind.i64.wrap (v12 - x1))), IntKind.i64.wrap (x3 + (if v9 < x0 then v9 else x0)), v12, (if IntKind.i64.wrap (x4 + v8) < 1000000 then IntKind.i64.wrap (x4 + v8) else 1000000), x6, (if IntKind.i64.wrap (x5 + ((v13.getD default).2)) < 1000000 then IntKind.i64.wrap (x5 + ((v13.getD default).2)) else 1000000))
                       else none
                      else none
                     else some (x2, IntKind.i64.wrap ((IntKind.i64.wrap (x0 - (if v9 < x0 then v9 else x0))) - (IntKind.i64.wrap (v12 - x1))), IntKind.i64.wrap (x3 + (if v9 < x0 then v9 else x0)), v12, (if IntKind.i64.wrap (x4 + v8) < 1000000 then IntKind.i64.wrap (x4 + v8) else 1000000), x6, x5)
                 else none
                else none
               else (r64 x7 x8 x9 x10 x11 x12 x13 x14 a2).bind fun v18 =>
                if v18.isSome = true then
                 if v18.isSome = true then
                  if v18.isSome = true then
                   some (x2, IntKind.i64.wrap (x0 - (if v9 < x0 then v9 else x0)), IntKind.i64.wrap (x3 + (if v9 < x0 then v9 else x0)), x1, (if IntKind.i64.wrap (x4 + v8) < 1000000 then IntKind.i64.wrap (x4 + v8) else 1000000), x6, (if IntKind.i64.wrap (x5 + ((v18.getD default).2)) < 1000000 then IntKind.i64.wrap (x5 + ((v18.getD default).2)) else 1000000))
                   else none
                  else none
                 else some (x2, IntKind.i64.wrap (x0 - (if v9 < x0 then v9 else x0)), IntKind.i64.wrap (x3 + (if v9 < x0 then v9 else x0)), x1, (if IntKind.i64.wrap (x4 + v8) < 1000000 then IntKind.i64.wrap (x4 + v8) else 1000000), x6, x5)
            else none
           else none
          else (r62 x7 x8 x9 x10 x11 x12 x13 x14 a2).bind fun v23 =>
           if v23.isSome = true then
            if v23.isSome = true then
             if v23.isSome = true then
              (r60 ((v23.getD default).2.1) ((v23.getD default).2.2) x15).bind fun v24 =>
               (r63 x0 x1 v24).bind fun v25 =>
                (r64 x7 x8 x9 x10 x11 x12 x13 x14 a2).bind fun v26 =>
                 if v26.isSome = true then
                  if v26.isSome = true then
                   if v26.isSome = true then
                    some (x2, IntKind.i64.wrap (x0 - (IntKind.i64.wrap (v25 - x1))), x3, v25, (if IntKind.i64.wrap (x4 + v8) < 1000000 then IntKind.i64.wrap (x4 + v8) else 1000000), x6, (if IntKind.i64.wrap (x5 + ((v26.getD default).2)) < 1000000 then IntKind.i64.wrap (x5 + ((v26.getD default).2)) else 1000000))
                    else none
                   else none
                  else some (x2, IntKind.i64.wrap (x0 - (IntKind.i64.wrap (v25 - x1))), x3, v25, (if IntKind.i64.wrap (x4 + v8) < 1000000 then IntKind.i64.wrap (x4 + v8) else 1000000), x6, x5)
              else none
             else none
            else (r64 x7 x8 x9 x10 x11 x12 x13 x14 a2).bind fun v31 =>
             if v31.isSome = true then
              if v31.isSome = true then
               if v31.isSome = true then
                some (x2, x0, x3, x1, (if IntKind.i64.wrap (x4 + v8) < 1000000 then IntKind.i64.wrap (x4 + v8) else 1000000), x6, (if IntKind.i64.wrap (x5 + ((v31.getD default).2)) < 1000000 then IntKind.i64.wrap (x5 + ((v31.getD default).2)) else 1000000))
                else none
               else none
              else some (x2, x0, x3, x1, (if IntKind.i64.wrap (x4 + v8) < 1000000 then IntKind.i64.wrap (x4 + v8) else 1000000), x6, x5)
        else none
       else none
      else (r62 x7 x8 x9 x10 x11 x12 x13 x14 a2).bind fun v36 =>
       if v36.isSome = true then
        if v36.isSome = true then
         if v36.isSome = true then
          (r60 ((v36.getD default).2.1) ((v36.getD default).2.2) x15).bind fun v37 =>
           (r63 x0 x1 v37).bind fun v38 =>
            (r64 x7 x8 x9 x10 x11 x12 x13 x14 a2).bind fun v39 =>
             if v39.isSome = true then
              if v39.isSome = true then
               if v39.isSome = true then
                some (x2, IntKind.i64.wrap (x0 - (IntKind.i64.wrap (v38 - x1))), x3, v38, x4, x6, (if IntKind.i64.wrap (x5 + ((v39.getD default).2)) < 1000000 then IntKind.i64.wrap (x5 + ((v39.getD default).2)) else 1000000))
                else none
               else none
              else some (x2, IntKind.i64.wrap (x0 - (IntKind.i64.wrap (v38 - x1))), x3, v38, x4, x6, x5)
          else none
         else none
        else (r64 x7 x8 x9 x10 x11 x12 x13 x14 a2).bind fun v44 =>
         if v44.isSome = true then
          if v44.isSome = true then
           if v44.isSome = true then
            some (x2, x0, x3, x1, x4, x6, (if IntKind.i64.wrap (x5 + ((v44.getD default).2)) < 1000000 then IntKind.i64.wrap (x5 + ((v44.getD default).2)) else 1000000))
            else none
           else none
          else some (x2, x0, x3, x1, x4, x6, x5)
def T50 := qT21 qu1 false r50
attribute [go_sem] T50
def tb50 : Fns := lk [(59, T59.sp), (60, T60.sp), (61, T61.sp), (62, T62.sp), (63, T63.sp), (64, T64.sp)]
theorem tb50_ok : FnsOk Tryd.prog tb50 := .cons f59 (.cons f60 (.cons f61 (.cons f62 (.cons f63 (.cons f64 .nil)))))
theorem tk50 : tb50 59 = some T59.sp ∧ tb50 60 = some T60.sp ∧ tb50 61 = some T61.sp ∧ tb50 62 = some T62.sp ∧ tb50 63 = some T63.sp ∧ tb50 64 = some T64.sp := ⟨rfl, rfl, rfl, rfl, rfl, rfl⟩
section
attribute [local go_sem] tk50 Tryd.results50
theorem f50 : FnFact Tryd.prog 50 T50.sp := by
  refine valid_m ty_ok tb50_ok Tryd.func50 rfl Tryd.ntmps50 fun ⟨x7, x8, x9, x10, x11, x12, x13, x14, x2, x0, x3, x1, x4, x6, x5, a2, x17, x16, x15⟩ r hr => ⟨nL rfl, fun stop S => ?_⟩
  replace hr : r50 x7 x8 x9 x10 x11 x12 x13 x14 x2 x0 x3 x1 x4 x6 x5 a2 x17 x16 x15 = some r := hr
  unfold r50 at hr
  refine S.gx [6, 16, 18, 21, 26] ?_
  obtain ⟨v1, hv1, hr⟩ := of_bind0 hr
  refine gb hv1 ?_
  refine iW hr (fun hc hr => ?_) fun hc hr => ?_
  · obtain ⟨hg5, hr⟩ := of_guard0 hr
    obtain ⟨hg6, hr⟩ := of_guard0 hr
    obtain ⟨v2, hv2, hr⟩ := of_bind0 hr
    refine gb hv2 ?_
    refine S.prune [5, 8, 9, 10] ?_
    refine S.gx [16, 18, 21, 26] ?_
    exact D0 hr
  · obtain ⟨v7, hv7, hr⟩ := of_bind0 hr
    refine gb hv7 ?_
    refine iW hr (fun hc hr => ?_) fun hc hr => ?_
    · obtain ⟨hg34, hr⟩ := of_guard0 hr
      obtain ⟨hg35, hr⟩ := of_guard0 hr
      obtain ⟨v8, hv8, hr⟩ := of_bind0 hr
      refine gb hv8 ?_
      refine iW hr (fun hc hr => ?_) fun hc hr => ?_
      · obtain ⟨hg21, hr⟩ := of_guard0 hr
        obtain ⟨hg22, hr⟩ := of_guard0 hr
        obtain ⟨v9, hv9, hr⟩ := of_bind0 hr
        refine gb hv9 ?_
        refine S.prune [2, 4, 5, 7, 8, 12] ?_
        refine S.gx [6, 18, 21, 26] ?_
        refine gr ?_
        refine gr ?_
        refine S.prune [2, 4, 5, 7, 8] ?_
        refine S.gx [6, 16, 21, 26] ?_
        obtain ⟨v10, hv10, hr⟩ := of_bind0 hr
        refine gb hv10 ?_
        refine gr ?_
        refine iW hr (fun hc hr => ?_) fun hc hr => ?_
        · obtain ⟨hg16, hr⟩ := of_guard0 hr
          obtain ⟨hg17, hr⟩ := of_guard0 hr
          obtain ⟨v11, hv11, hr⟩ := of_bind0 hr
          obtain ⟨v12, hv12, hr⟩ := of_bind0 hr
          refine gb hv11 ?_
          refine gb hv12 ?_
          refine S.prune [2, 4, 5, 8, 14] ?_
          refine S.gx [6, 16, 18, 26] ?_
          refine gr ?_
          obtain ⟨v13, hv13, hr⟩ := of_bind0 hr
          refine gb hv13 ?_
          refine iW hr (fun hc hr => ?_) fun hc hr => ?_
          · obtain ⟨hg14, hr⟩ := of_guard0 hr
            obtain ⟨hg15, hr⟩ := of_guard0 hr
            refine gr ?_
            refine S.prune [5, 8] ?_
            refine S.gx [6, 16, 18, 21] ?_
            exact D0 hr
          · refine gr ?_
            refine S.prune [5, 8] ?_
            refine S.gx [6, 16, 18, 21] ?_
            exact D0 hr
        · obtain ⟨v18, hv18, hr⟩ := of_bind0 hr
          refine gb hv18 ?_
          refine iW hr (fun hc hr => ?_) fun hc hr => ?_
          · obtain ⟨hg19, hr⟩ := of_guard0 hr
            obtain ⟨hg20, hr⟩ := of_guard0 hr
            refine gr ?_
            refine S.prune [5, 8] ?_
            refine S.gx [6, 16, 18, 21] ?_
            exact D0 hr
          · refine gr ?_
            refine S.prune [5, 8] ?_
            refine S.gx [6, 16, 18, 21] ?_
            exact D0 hr
      · refine gr ?_
        refine S.prune [2, 4, 5, 7, 8] ?_
        refine S.gx [6, 16, 21, 26] ?_
        obtain ⟨v23, hv23, hr⟩ := of_bind0 hr
        refine gb hv23 ?_
        refine gr ?_
        refine iW hr (fun hc hr => ?_) fun hc hr => ?_
        · obtain ⟨hg29, hr⟩ := of_guard0 hr
          obtain ⟨hg30, hr⟩ := of_guard0 hr
          obtain ⟨v24, hv24, hr⟩ := of_bind0 hr
          obtain ⟨v25, hv25, hr⟩ := of_bind0 hr
          refine gb hv24 ?_
          refine gb hv25 ?_
          refine S.prune [2, 4, 5, 8, 14] ?_
          refine S.gx [6, 16, 18, 26] ?_
          refine gr ?_
          obtain ⟨v26, hv26, hr⟩ := of_bind0 hr
          refine gb hv26 ?_
          refine iW hr (fun hc hr => ?_) fun hc hr => ?_
          · obtain ⟨hg27, hr⟩ := of_guard0 hr
            obtain ⟨hg28, hr⟩ := of_guard0 hr
            refine gr ?_
            refine S.prune [5, 8] ?_
            refine S.gx [6, 16, 18, 21] ?_
            exact D0 hr
          · refine gr ?_
            refine S.prune [5, 8] ?_
            refine S.gx [6, 16, 18, 21] ?_
            exact D0 hr
        · obtain ⟨v31, hv31, hr⟩ := of_bind0 hr
          refine gb hv31 ?_
          refine iW hr (fun hc hr => ?_) fun hc hr => ?_
          · obtain ⟨hg32, hr⟩ := of_guard0 hr
            obtain ⟨hg33, hr⟩ := of_guard0 hr
            refine gr ?_
            refine S.prune [5, 8] ?_
            refine S.gx [6, 16, 18, 21] ?_
            exact D0 hr
          · refine gr ?_
            refine S.prune [5, 8] ?_
            refine S.gx [6, 16, 18, 21] ?_
            exact D0 hr
    · refine gr ?_
      refine S.prune [2, 4, 5, 7, 8] ?_
      refine S.gx [6, 16, 21, 26] ?_
      obtain ⟨v36, hv36, hr⟩ := of_bind0 hr
      refine gb hv36 ?_
      refine gr ?_
      refine iW hr (fun hc hr => ?_) fun hc hr => ?_
      · obtain ⟨hg42, hr⟩ := of_guard0 hr
        obtain ⟨hg43, hr⟩ := of_guard0 hr
        obtain ⟨v37, hv37, hr⟩ := of_bind0 hr
        obtain ⟨v38, hv38, hr⟩ := of_bind0 hr
        refine gb hv37 ?_
        refine gb hv38 ?_
        refine S.prune [2, 4, 5, 8, 14] ?_
        refine S.gx [6, 16, 18, 26] ?_
        refine gr ?_
        obtain ⟨v39, hv39, hr⟩ := of_bind0 hr
        refine gb hv39 ?_
        refine iW hr (fun hc hr => ?_) fun hc hr => ?_
        · obtain ⟨hg40, hr⟩ := of_guard0 hr
          obtain ⟨hg41, hr⟩ := of_guard0 hr
          refine gr ?_
          refine S.prune [5, 8] ?_
          refine S.gx [6, 16, 18, 21] ?_
          exact D0 hr
        · refine gr ?_
          refine S.prune [5, 8] ?_
          refine S.gx [6, 16, 18, 21] ?_
          exact D0 hr
      · obtain ⟨v44, hv44, hr⟩ := of_bind0 hr
        refine gb hv44 ?_
        refine iW hr (fun hc hr => ?_) fun hc hr => ?_
        · obtain ⟨hg45, hr⟩ := of_guard0 hr
          obtain ⟨hg46, hr⟩ := of_guard0 hr
          refine gr ?_
          refine S.prune [5, 8] ?_
          refine S.gx [6, 16, 18, 21] ?_
          exact D0 hr
        · refine gr ?_
          refine S.prune [5, 8] ?_
          refine S.gx [6, 16, 18, 21] ?_
          exact D0 hr
end

/- (martensite/steel.rules).run -/
def b33_1 (x0 : L_IIII) (x1 : L_IIIII) (x2 : L_III) (x3 : L_II) (x4 x5 x6 x7 : Int) (a2 : L_I) (x8 x9 x10 : Int) : Bd (Int × Int × Int × Int × Int × Int × Int × Int) (Int × Int × Int × Int × Int × Int × Int) := fun s1 =>
  if (decide (s1.1 < (a2.length : Int))) = true then
   if 0 ≤ s1.1 ∧ s1.1 < (a2.length : Int) then
    bindC (r50 x0 x1 x2 x3 x4 x5 x6 x7 s1.2.1 s1.2.2.1 s1.2.2.2.1 s1.2.2.2.2.1 s1.2.2.2.2.2.1 s1.2.2.2.2.2.2.1 s1.2.2.2.2.2.2.2 (a2.getD s1.1.toNat default) x8 x9 x10) fun v1 =>
     .next (IntKind.i64.wrap (s1.1 + 1), v1.1, v1.2.1, v1.2.2.1, v1.2.2.2.1, v1.2.2.2.2.1, v1.2.2.2.2.2.1, v1.2.2.2.2.2.2)
    else .out none
   else .out (some (s1.2.1, s1.2.2.1, s1.2.2.2.1, s1.2.2.2.2.1, s1.2.2.2.2.2.1, s1.2.2.2.2.2.2.1, s1.2.2.2.2.2.2.2))
def r33 (x0 : L_IIII) (x1 : L_IIIII) (x2 : L_III) (x3 : L_II) (x4 x5 x6 x7 x11 x12 x13 x14 x15 x16 x17 : Int) (a2 : L_I) (x8 x9 x10 : Int) : Option (Int × Int × Int × Int × Int × Int × Int) :=
  iterC (b33_1 x0 x1 x2 x3 x4 x5 x6 x7 a2 x8 x9 x10) 1000000000 (0, x11, x12, x13, x14, x15, x16, x17)
def T33 := qT22 qu1 false r33
attribute [go_sem] T33
def tb33 : Fns := lk [(50, T50.sp)]
theorem tb33_ok : FnsOk Tryd.prog tb33 := .cons f50 .nil
theorem tk33 : tb33 50 = some T50.sp := rfl
section
attribute [local go_sem] tk33 Tryd.results33
theorem f33 : FnFact Tryd.prog 33 T33.sp := by
  refine valid_m ty_ok tb33_ok Tryd.func33 rfl Tryd.ntmps33 fun ⟨x0, x1, x2, x3, x4, x5, x6, x7, x11, x12, x13, x14, x15, x16, x17, a2, x8, x9, x10⟩ r hr => ⟨nL rfl, fun stop S => ?_⟩
  replace hr : r33 x0 x1 x2 x3 x4 x5 x6 x7 x11 x12 x13 x14 x15 x16 x17 a2 x8 x9 x10 = some r := hr
  unfold r33 at hr
  refine S.gx [] ?_
  refine gr ?_
  refine S.sees [4, 5, 7, 8, 11, 12, 13] [(4, 4), (5, 5), (7, 7), (8, 8)] [] ?_ (Stop.iter S (fun s1 => ⟨[(4, .c (.ref 4 0)), (5, .c (.ref 5 0)), (7, .c (.ref 7 0)), (8, .c (.ref 8 0)), (11, .c (.d (encF 1 d_I a2))), (12, .c (.d (.int .i64 (a2.length : Int)))), (13, .c (.d (.int .i64 s1.1)))], [(4, [.d (encF 4 d_IIII x0), .d (encF 5 d_IIIII x1), .d (encF 3 d_III x2), .d (encF 2 d_II x3), .d (.int .i64 x4), .d (.int .i64 x5), .d (.int .i64 x6), .d (.int .i64 x7)]), (5, [.d (.int .i64 s1.2.1), .d (.int .i64 s1.2.2.1), .d (.int .i64 s1.2.2.2.1), .d (.int .i64 s1.2.2.2.2.1), .d (.int .i64 s1.2.2.2.2.2.1), .d (.int .i64 s1.2.2.2.2.2.2.1), .d (.int .i64 s1.2.2.2.2.2.2.2)]), (7, [.d (.int .i64 x8), .d (.int .i64 x9), .d (.int .i64 x10)]), (8, [.d (.int .i64 0), .d (.int .i64 0), .d (.int .i64 0), .d (.int .i64 0), .d (.int .i64 0), .d (.int .i64 0), .d (.int .i64 0)])], []⟩) (b33_1 x0 x1 x2 x3 x4 x5 x6 x7 a2 x8 x9 x10) (fun q => q = r) hr rfl ?_)
  · exact lf
  · intro s1 hr
    unfold b33_1 at hr
    refine S.gx [] ?_
    exact D1 (S.ss [4, 5, 7, 8, 11, 12, 13] [(4, 4), (5, 5), (7, 7), (8, 8)] []) hr
end

/- martensite/steel.RunOf -/
def r10 (x0 : L_IIII) (x1 : L_IIIII) (x2 : L_III) (x3 : L_II) (x4 x5 x6 x7 x8 x9 x10 x11 x12 x13 x14 : Int) (x15 : L_I) (x16 x17 x18 : Int) : Option (Int × Int × Int × Int × Int × Int × Int × Int) :=
  (r29 x0 x1 x2 x3 x4 x5 x6 x7).bind fun v1 =>
   (r30 x8 x9 x10 x11 x12 x13 x14).bind fun v2 =>
    (r31 x15).bind fun v3 =>
     (r32 x16 x17 x18).bind fun v4 =>
      (r17 [v1, v2, v3, v4]).bind fun v5 =>
       if (v5 != 0) = true then
        some (0, 0, 0, 0, 0, 0, 0, v5)
        else (r33 x0 x1 x2 x3 x4 x5 x6 x7 x8 x9 x10 x11 x12 x13 x14 x15 x16 x17 x18).bind fun v6 =>
         some (v6.1, v6.2.1, v6.2.2.1, v6.2.2.2.1, v6.2.2.2.2.1, v6.2.2.2.2.2.1, v6.2.2.2.2.2.2, 0)
def T10 := qT23 qu10 false r10
attribute [go_sem] T10
def tb10 : Fns := lk [(17, T17.sp), (29, T29.sp), (30, T30.sp), (31, T31.sp), (32, T32.sp), (33, T33.sp)]
theorem tb10_ok : FnsOk Tryd.prog tb10 := .cons f17 (.cons f29 (.cons f30 (.cons f31 (.cons f32 (.cons f33 .nil)))))
theorem tk10 : tb10 17 = some T17.sp ∧ tb10 29 = some T29.sp ∧ tb10 30 = some T30.sp ∧ tb10 31 = some T31.sp ∧ tb10 32 = some T32.sp ∧ tb10 33 = some T33.sp := ⟨rfl, rfl, rfl, rfl, rfl, rfl⟩
section
attribute [local go_sem] tk10 Tryd.results10
theorem f10 : FnFact Tryd.prog 10 T10.sp := by
  refine valid_m ty_ok tb10_ok Tryd.func10 rfl Tryd.ntmps10 fun ⟨x0, x1, x2, x3, x4, x5, x6, x7, x8, x9, x10, x11, x12, x13, x14, x15, x16, x17, x18⟩ r hr => ⟨nL rfl, fun stop S => ?_⟩
  replace hr : r10 x0 x1 x2 x3 x4 x5 x6 x7 x8 x9 x10 x11 x12 x13 x14 x15 x16 x17 x18 = some r := hr
  unfold r10 at hr
  refine S.gx [] ?_
  exact D0 hr
end

/- martensite/martensitelaw04.Austenite -/
def r13 : Option (Int × Int × Int × Int × Int × Int × Int) :=
  some (0, 1000000, 0, 0, 0, 0, 0)
def T13 := qT0 qu1 false r13
attribute [go_sem] T13
def tb13 : Fns := lk []
theorem tb13_ok : FnsOk Tryd.prog tb13 := FnsOk.nil
section
attribute [local go_sem] Tryd.results13
theorem f13 : FnFact Tryd.prog 13 T13.sp := by
  refine valid_m ty_ok tb13_ok Tryd.func13 rfl Tryd.ntmps13 fun _ r hr => ⟨nL rfl, fun stop S => ?_⟩
  replace hr : r13 = some r := hr
  unfold r13 at hr
  refine S.gx [] ?_
  exact D0 hr
end

/- (martensite/steel.rules).hardness -/
def r34 (x4 : L_IIII) (x5 : L_IIIII) (x6 : L_III) (x7 : L_II) (x2 x3 x0 x1 a1 : Int) : Option (Int × Int × Int × Int) :=
  some (x2, x3, x0, (if x0 < IntKind.i64.wrap (x1 - a1) then IntKind.i64.wrap (x1 - a1) else x0))
def T34 := qT14 qu11 false r34
attribute [go_sem] T34
def tb34 : Fns := lk []
theorem tb34_ok : FnsOk Tryd.prog tb34 := FnsOk.nil
section
attribute [local go_sem] Tryd.results34
theorem f34 : FnFact Tryd.prog 34 T34.sp := by
  refine valid_m ty_ok tb34_ok Tryd.func34 rfl Tryd.ntmps34 fun ⟨x4, x5, x6, x7, x2, x3, x0, x1, a1⟩ r hr => ⟨nL rfl, fun stop S => ?_⟩
  replace hr : r34 x4 x5 x6 x7 x2 x3 x0 x1 a1 = some r := hr
  unfold r34 at hr
  refine S.gx [] ?_
  exact D0 hr
end

/- martensite/steel.HardnessOf -/
def b14_1 (x0 : L_IIII) (x1 : L_IIIII) (x2 : L_III) (x3 : L_II) (x4 x5 x6 x7 x9 x10 x11 x12 x8 : Int) : Bd (Int × Int) (Int × Int) := fun s1 =>
  if (decide (s1.2 < 4)) = true then
   if s1.2 = 0 then
    bindC (r34 x0 x1 x2 x3 x4 x5 x6 x7 x8) fun v11 =>
     .next (IntKind.i64.wrap (s1.1 + (IntKind.i64.wrap (x9 * v11.1))), 1)
    else if s1.2 = 1 then
     bindC (r34 x0 x1 x2 x3 x4 x5 x6 x7 x8) fun v9 =>
      .next (IntKind.i64.wrap (s1.1 + (IntKind.i64.wrap (x10 * v9.2.1))), 2)
     else if s1.2 = 2 then
      bindC (r34 x0 x1 x2 x3 x4 x5 x6 x7 x8) fun v7 =>
       .next (IntKind.i64.wrap (s1.1 + (IntKind.i64.wrap (x11 * v7.2.2.1))), 3)
      else if s1.2 = 3 then
       bindC (r34 x0 x1 x2 x3 x4 x5 x6 x7 x8) fun v5 =>
        .next (IntKind.i64.wrap (s1.1 + (IntKind.i64.wrap (x12 * v5.2.2.2))), 4)
       else .out none
   else .out (some (IntKind.i64.wrap (s1.1.tdiv 1000000), 0))
def r14 (x0 : L_IIII) (x1 : L_IIIII) (x2 : L_III) (x3 : L_II) (x4 x5 x6 x7 x9 x10 x11 x12 x13 x14 x8 : Int) : Option (Int × Int) :=
  (r29 x0 x1 x2 x3 x4 x5 x6 x7).bind fun v1 =>
   (r30 x9 x10 x11 x12 x13 x14 x8).bind fun v2 =>
    (r17 [v1, v2]).bind fun v3 =>
     if (v3 != 0) = true then
      some (0, v3)
      else iterC (b14_1 x0 x1 x2 x3 x4 x5 x6 x7 x9 x10 x11 x12 x8) 1000000000 (0, 0)
def T14 := qT24 qu5 false r14
attribute [go_sem] T14
def tb14 : Fns := lk [(17, T17.sp), (29, T29.sp), (30, T30.sp), (34, T34.sp)]
theorem tb14_ok : FnsOk Tryd.prog tb14 := .cons f17 (.cons f29 (.cons f30 (.cons f34 .nil)))
theorem tk14 : tb14 17 = some T17.sp ∧ tb14 29 = some T29.sp ∧ tb14 30 = some T30.sp ∧ tb14 34 = some T34.sp := ⟨rfl, rfl, rfl, rfl⟩
section
attribute [local go_sem] tk14 Tryd.results14
theorem f14 : FnFact Tryd.prog 14 T14.sp := by
  refine valid_m ty_ok tb14_ok Tryd.func14 rfl Tryd.ntmps14 fun ⟨x0, x1, x2, x3, x4, x5, x6, x7, x9, x10, x11, x12, x13, x14, x8⟩ r hr => ⟨nL rfl, fun stop S => ?_⟩
  replace hr : r14 x0 x1 x2 x3 x4 x5 x6 x7 x9 x10 x11 x12 x13 x14 x8 = some r := hr
  unfold r14 at hr
  refine S.gx [7] ?_
  obtain ⟨v1, hv1, hr⟩ := of_bind0 hr
  obtain ⟨v2, hv2, hr⟩ := of_bind0 hr
  obtain ⟨v3, hv3, hr⟩ := of_bind0 hr
  refine gb hv1 ?_
  refine gb hv2 ?_
  refine gb hv3 ?_
  refine iW hr (fun hc hr => D0 hr) fun hc hr => ?_
  refine gr ?_
  refine S.sees [2, 3, 7, 27, 28] [(2, 2), (3, 3)] [] ?_ (Stop.iter S (fun s1 => ⟨[(2, .c (.ref 2 0)), (3, .c (.ref 3 0)), (7, .c (.d (.int .i64 s1.1))), (27, .agg [.d (.int .i64 x9), .d (.int .i64 x10), .d (.int .i64 x11), .d (.int .i64 x12)]), (28, .c (.d (.int .i64 s1.2)))], [(2, [.d (encF 4 d_IIII x0), .d (encF 5 d_IIIII x1), .d (encF 3 d_III x2), .d (encF 2 d_II x3), .d (.int .i64 x4), .d (.int .i64 x5), .d (.int .i64 x6), .d (.int .i64 x7)]), (3, [.d (.int .i64 x9), .d (.int .i64 x10), .d (.int .i64 x11), .d (.int .i64 x12), .d (.int .i64 x13), .d (.int .i64 x14), .d (.int .i64 x8)])], []⟩) (b14_1 x0 x1 x2 x3 x4 x5 x6 x7 x9 x10 x11 x12 x8) (fun q => q = r) hr rfl ?_)
  · exact lf
  · intro s1 hr
    unfold b14_1 at hr
    refine S.gx [7] ?_
    refine gr ?_
    refine iW1 hr (fun hc hr => ?_) fun hc hr => D0 hr
    refine gr ?_
    by_cases hs10 : s1.2 = 0
    · rw [if_pos hs10] at hr
      simp only [hs10]
      refine S.gx [] ?_
      exact D1 (S.ss [2, 3, 7, 27, 28] [(2, 2), (3, 3)] []) hr
    · rw [if_neg hs10] at hr
      by_cases hs8 : s1.2 = 1
      · rw [if_pos hs8] at hr
        simp only [hs8]
        refine S.gx [] ?_
        exact D1 (S.ss [2, 3, 7, 27, 28] [(2, 2), (3, 3)] []) hr
      · rw [if_neg hs8] at hr
        by_cases hs6 : s1.2 = 2
        · rw [if_pos hs6] at hr
          simp only [hs6]
          refine S.gx [] ?_
          exact D1 (S.ss [2, 3, 7, 27, 28] [(2, 2), (3, 3)] []) hr
        · rw [if_neg hs6] at hr
          by_cases hs4 : s1.2 = 3
          · rw [if_pos hs4] at hr
            simp only [hs4]
            refine S.gx [] ?_
            exact D1 (S.ss [2, 3, 7, 27, 28] [(2, 2), (3, 3)] []) hr
          · rw [if_neg hs4] at hr
            first | cases hr | exact hr.elim
end

/- martensite/steel.shares -/
def r52 (x0 x1 x2 x3 x4 x5 x6 x7 x8 x9 x10 x11 x12 x13 : Int) : Option (Int × Int × Int × Int × Int × Int × Int × Int) :=
  some (x0, x1, x2, x3, x4, x5, x6, x7)
def T52 := qT25 qu12 false r52
attribute [go_sem] T52
def tb52 : Fns := lk []
theorem tb52_ok : FnsOk Tryd.prog tb52 := FnsOk.nil
section
attribute [local go_sem] Tryd.results52
theorem f52 : FnFact Tryd.prog 52 T52.sp := by
  refine valid_m ty_ok tb52_ok Tryd.func52 rfl Tryd.ntmps52 fun ⟨x0, x1, x2, x3, x4, x5, x6, x7, x8, x9, x10, x11, x12, x13⟩ r hr => ⟨nL rfl, fun stop S => ?_⟩
  replace hr : r52 x0 x1 x2 x3 x4 x5 x6 x7 x8 x9 x10 x11 x12 x13 = some r := hr
  unfold r52 at hr
  refine S.gx [] ?_
  exact D0 hr
end

/- martensite/steel.CheckBox -/
def r35 (x7 x0 x8 x1 x9 x2 x10 x3 x11 x4 x12 x5 x13 x6 : Int) : Option (Int) :=
  (r21 x7 0 1000000).bind fun v1 =>
   if v1 = true → (r21 x0 0 1000000).isSome = true then
    (r19 (v1 && ((r21 x0 0 1000000).getD default)) 2).bind fun v2 =>
     (r19 (decide (x7 ≤ x0)) 9).bind fun v3 =>
      (r17 [v2, v3]).bind fun v4 =>
       if (v4 != 0) = true then
        some v4
        else (r21 x8 0 1000000).bind fun v5 =>
         if v5 = true → (r21 x1 0 1000000).isSome = true then
          (r19 (v5 && ((r21 x1 0 1000000).getD default)) 2).bind fun v6 =>
           (r19 (decide (x8 ≤ x1)) 9).bind fun v7 =>
            (r17 [v6, v7]).bind fun v8 =>
             if (v8 != 0) = true then
              some v8
              else (r21 x9 0 1000000).bind fun v9 =>
               if v9 = true → (r21 x2 0 1000000).isSome = true then
                (r19 (v9 && ((r21 x2 0 1000000).getD default)) 2).bind fun v10 =>
                 (r19 (decide (x9 ≤ x2)) 9).bind fun v11 =>
                  (r17 [v10, v11]).bind fun v12 =>
                   if (v12 != 0) = true then
                    some v12
                    else (r21 x10 0 1000000).bind fun v13 =>
                     if v13 = true → (r21 x3 0 1000000).isSome = true then
                      (r19 (v13 && ((r21 x3 0 1000000).getD default)) 2).bind fun v14 =>
                       (r19 (decide (x10 ≤ x3)) 9).bind fun v15 =>
                        (r17 [v14, v15]).bind fun v16 =>
                         if (v16 != 0) = true then
                          some v16
                          else (r21 x11 0 1000000).bind fun v17 =>
                           if v17 = true → (r21 x4 0 1000000).isSome = true then
                            (r19 (v17 && ((r21 x4 0 1000000).getD default)) 2).bind fun v18 =>
                             (r19 (decide (x11 ≤ x4)) 9).bind fun v19 =>
                              (r17 [v18, v19]).bind fun v20 =>
                               if (v20 != 0) = true then
                                some v20
                                else (r21 x12 0 100000).bind fun v21 =>
                                 if v21 = true → (r21 x5 0 100000).isSome = true then
                                  (r19 (v21 && ((r21 x5 0 100000).getD default)) 2).bind fun v22 =>
                                   (r19 (decide (x12 ≤ x5)) 9).bind fun v23 =>
                                    (r17 [v22, v23]).bind fun v24 =>
                                     if (v24 != 0) = true then
                                      some v24
                                      else (r21 x13 0 1000000).bind fun v25 =>
                                       if v25 = true → (r21 x6 0 1000000).isSome = true then
                                        (r19 (v25 && ((r21 x6 0 1000000).getD default)) 2).bind fun v26 =>
                                         (r19 (decide (x13 ≤ x6)) 9).bind fun v27 =>
                                          (r17 [v26, v27]).bind fun v28 =>
                                           if (v28 != 0) = true then
                                            some v28
                                            else (r52 x7 x0 x8 x1 x9 x2 x10 x3 x11 x4 x12 x5 x13 x6).bind fun v29 =>
                                             (r21 1000000 (IntKind.i64.wrap ((IntKind.i64.wrap ((IntKind.i64.wrap ((IntKind.i64.wrap (0 + v29.1)) + v29.2.2.1)) + v29.2.2.2.2.1)) + v29.2.2.2.2.2.2.1)) (IntKind.i64.wrap ((IntKind.i64.wrap ((IntKind.i64.wrap ((IntKind.i64.wrap (0 + v29.2.1)) + v29.2.2.2.1)) + v29.2.2.2.2.2.1)) + v29.2.2.2.2.2.2.2))).bind fun v30 =>
                                              (r19 v30 12).bind fun v31 =>
                                               some v31
                                        else none
                                  else none
                            else none
                      else none
                else none
          else none
    else none
def T35 := qT25 qu4 false r35
attribute [go_sem] T35
def tb35 : Fns := lk [(17, T17.sp), (19, T19.sp), (21, T21.sp), (52, T52.sp)]
theorem tb35_ok : FnsOk Tryd.prog tb35 := .cons f17 (.cons f19 (.cons f21 (.cons f52 .nil)))
theorem tk35 : tb35 17 = some T17.sp ∧ tb35 19 = some T19.sp ∧ tb35 21 = some T21.sp ∧ tb35 52 = some T52.sp := ⟨rfl, rfl, rfl, rfl⟩
section
attribute [local go_sem] tk35 Tryd.results35 Tryd.results51
theorem f35 : FnFact Tryd.prog 35 T35.sp := by
  refine valid_m ty_ok tb35_ok Tryd.func35 rfl Tryd.ntmps35 fun ⟨x7, x0, x8, x1, x9, x2, x10, x3, x11, x4, x12, x5, x13, x6⟩ r hr => ⟨nL rfl, fun stop S => ?_⟩
  replace hr : r35 x7 x0 x8 x1 x9 x2 x10 x3 x11 x4 x12 x5 x13 x6 = some r := hr
  unfold r35 at hr
  refine S.gx [2, 6] ?_
  refine gr ?_
  refine S.inl 0 [1, 3] [] Tryd.func51 (by decide) rfl Tryd.ntmps51 (fun cx e => drawn_ok ty_ok tb35_ok cx e) (some 11) rfl rfl rfl rfl (nL rfl) (nL rfl) ?_
  refine gs ?_
  refine gr ?_
  intro stop1 S1
  refine S1.gx [] ?_
  refine gr ?_
  refine gr ?_
  refine S.gx [2, 6] ?_
  refine gr ?_
  refine S.lp ?_
  refine S.gx [2, 6] ?_
  obtain ⟨v1, hv1, hr⟩ := of_bind0 hr
  obtain ⟨hg38, hr⟩ := of_guard0 hr
  obtain ⟨v2, hv2, hr⟩ := of_bind0 hr
  obtain ⟨v3, hv3, hr⟩ := of_bind0 hr
  obtain ⟨v4, hv4, hr⟩ := of_bind0 hr
  try simp only [hv1, hv2, hv3, hv4, Option.getD_some, Option.isSome_some, true_and, and_assoc]
  repeat (first | refine gG hg38 ?_ | refine gA ?_ | refine gB ?_)
  refine S.prune [1, 3, 6, 11, 12] ?_
  refine S.gx [2] ?_
  refine gr ?_
  refine gr ?_
  refine iW hr (fun hc hr => D0 hr) fun hc hr => ?_
  refine gr ?_
  refine S.lp ?_
  refine S.gx [2, 6] ?_
  obtain ⟨v5, hv5, hr⟩ := of_bind0 hr
  obtain ⟨hg37, hr⟩ := of_guard0 hr
  obtain ⟨v6, hv6, hr⟩ := of_bind0 hr
  obtain ⟨v7, hv7, hr⟩ := of_bind0 hr
  obtain ⟨v8, hv8, hr⟩ := of_bind0 hr
  try simp only [hv5, hv6, hv7, hv8, Option.getD_some, Option.isSome_some, true_and, and_assoc]
  repeat (first | refine gG hg37 ?_ | refine gA ?_ | refine gB ?_)
  refine S.prune [1, 3, 6, 11, 12] ?_
  refine S.gx [2] ?_
  refine gr ?_
  refine gr ?_
  refine iW hr (fun hc hr => D0 hr) fun hc hr => ?_
  refine gr ?_
  refine S.lp ?_
  refine S.gx [2, 6] ?_
  obtain ⟨v9, hv9, hr⟩ := of_bind0 hr
  obtain ⟨hg36, hr⟩ := of_guard0 hr
  obtain ⟨v10, hv10, hr⟩ := of_bind0 hr
  obtain ⟨v11, hv11, hr⟩ := of_bind0 hr
  obtain ⟨v12, hv12, hr⟩ := of_bind0 hr
  try simp only [hv9, hv10, hv11, hv12, Option.getD_some, Option.isSome_some, true_and, and_assoc]
  repeat (first | refine gG hg36 ?_ | refine gA ?_ | refine gB ?_)
  refine S.prune [1, 3, 6, 11, 12] ?_
  refine S.gx [2] ?_
  refine gr ?_
  refine gr ?_
  refine iW hr (fun hc hr => D0 hr) fun hc hr => ?_
  refine gr ?_
  refine S.lp ?_
  refine S.gx [2, 6] ?_
  obtain ⟨v13, hv13, hr⟩ := of_bind0 hr
  obtain ⟨hg35, hr⟩ := of_guard0 hr
  obtain ⟨v14, hv14, hr⟩ := of_bind0 hr
  obtain ⟨v15, hv15, hr⟩ := of_bind0 hr
  obtain ⟨v16, hv16, hr⟩ := of_bind0 hr
  try simp only [hv13, hv14, hv15, hv16, Option.getD_some, Option.isSome_some, true_and, and_assoc]
  repeat (first | refine gG hg35 ?_ | refine gA ?_ | refine gB ?_)
  refine S.prune [1, 3, 6, 11, 12] ?_
  refine S.gx [2] ?_
  refine gr ?_
  refine gr ?_
  refine iW hr (fun hc hr => D0 hr) fun hc hr => ?_
  refine gr ?_
  refine S.lp ?_
  refine S.gx [2, 6] ?_
  obtain ⟨v17, hv17, hr⟩ := of_bind0 hr
  obtain ⟨hg34, hr⟩ := of_guard0 hr
  obtain ⟨v18, hv18, hr⟩ := of_bind0 hr
  obtain ⟨v19, hv19, hr⟩ := of_bind0 hr
  obtain ⟨v20, hv20, hr⟩ := of_bind0 hr
  try simp only [hv17, hv18, hv19, hv20, Option.getD_some, Option.isSome_some, true_and, and_assoc]
  repeat (first | refine gG hg34 ?_ | refine gA ?_ | refine gB ?_)
  refine S.prune [1, 3, 6, 11, 12] ?_
  refine S.gx [2] ?_
  refine gr ?_
  refine gr ?_
  refine iW hr (fun hc hr => D0 hr) fun hc hr => ?_
  refine gr ?_
  refine S.lp ?_
  refine S.gx [2, 6] ?_
  obtain ⟨v21, hv21, hr⟩ := of_bind0 hr
  obtain ⟨hg33, hr⟩ := of_guard0 hr
  obtain ⟨v22, hv22, hr⟩ := of_bind0 hr
  obtain ⟨v23, hv23, hr⟩ := of_bind0 hr
  obtain ⟨v24, hv24, hr⟩ := of_bind0 hr
  try simp only [hv21, hv22, hv23, hv24, Option.getD_some, Option.isSome_some, true_and, and_assoc]
  repeat (first | refine gG hg33 ?_ | refine gA ?_ | refine gB ?_)
  refine S.prune [1, 3, 6, 11, 12] ?_
  refine S.gx [2] ?_
  refine gr ?_
  refine gr ?_
  refine iW hr (fun hc hr => D0 hr) fun hc hr => ?_
  refine gr ?_
  refine S.lp ?_
  refine S.gx [2, 6] ?_
  obtain ⟨v25, hv25, hr⟩ := of_bind0 hr
  obtain ⟨hg32, hr⟩ := of_guard0 hr
  obtain ⟨v26, hv26, hr⟩ := of_bind0 hr
  obtain ⟨v27, hv27, hr⟩ := of_bind0 hr
  obtain ⟨v28, hv28, hr⟩ := of_bind0 hr
  try simp only [hv25, hv26, hv27, hv28, Option.getD_some, Option.isSome_some, true_and, and_assoc]
  repeat (first | refine gG hg32 ?_ | refine gA ?_ | refine gB ?_)
  refine S.prune [1, 3, 6, 11, 12] ?_
  refine S.gx [2] ?_
  refine gr ?_
  refine gr ?_
  refine iW hr (fun hc hr => D0 hr) fun hc hr => ?_
  refine gr ?_
  refine S.lp ?_
  refine S.gx [2, 6] ?_
  obtain ⟨v29, hv29, hr⟩ := of_bind0 hr
  refine gb hv29 ?_
  refine S.lp ?_
  refine S.gx [2, 6] ?_
  refine gr ?_
  refine S.lp ?_
  refine S.gx [2, 6] ?_
  refine gr ?_
  refine S.lp ?_
  refine S.gx [2, 6] ?_
  refine gr ?_
  refine S.lp ?_
  refine S.gx [2, 6] ?_
  refine gr ?_
  refine S.lp ?_
  refine S.gx [2, 6] ?_
  exact D0 hr
end

/- martensite/steel.filled -/
def b53_2 (x0 x4 x1 x5 x2 x6 x3 x7 x8 x9 x10 x11 : Int) : Bd (Int × Int × Int × Int × Int × Int × Int) Int := fun s2 =>
  if (decide (s2.2.2.2.2.2.2 < 4)) = true then
   if s2.2.2.2.2.2.2 = 0 then
    if s2.2.2.1 = 0 then
     .next (IntKind.i64.wrap (s2.1 - (if IntKind.i64.wrap (x4 - x0) < s2.1 then IntKind.i64.wrap (x4 - x0) else s2.1)), IntKind.i64.wrap (s2.2.1 + (IntKind.i64.wrap ((if IntKind.i64.wrap (x4 - x0) < s2.1 then IntKind.i64.wrap (x4 - x0) else s2.1) * x8))), 0, s2.2.2.2.1, s2.2.2.2.2.1, s2.2.2.2.2.2.1, 1)
     else if s2.2.2.1 = 1 then
      .next (IntKind.i64.wrap (s2.1 - (if IntKind.i64.wrap (x5 - x1) < s2.1 then IntKind.i64.wrap (x5 - x1) else s2.1)), IntKind.i64.wrap (s2.2.1 + (IntKind.i64.wrap ((if IntKind.i64.wrap (x5 - x1) < s2.1 then IntKind.i64.wrap (x5 - x1) else s2.1) * x9))), 1, s2.2.2.2.1, s2.2.2.2.2.1, s2.2.2.2.2.2.1, 1)
      else if s2.2.2.1 = 2 then
       .next (IntKind.i64.wrap (s2.1 - (if IntKind.i64.wrap (x6 - x2) < s2.1 then IntKind.i64.wrap (x6 - x2) else s2.1)), IntKind.i64.wrap (s2.2.1 + (IntKind.i64.wrap ((if IntKind.i64.wrap (x6 - x2) < s2.1 then IntKind.i64.wrap (x6 - x2) else s2.1) * x10))), 2, s2.2.2.2.1, s2.2.2.2.2.1, s2.2.2.2.2.2.1, 1)
       else if s2.2.2.1 = 3 then
        .next (IntKind.i64.wrap (s2.1 - (if IntKind.i64.wrap (x7 - x3) < s2.1 then IntKind.i64.wrap (x7 - x3) else s2.1)), IntKind.i64.wrap (s2.2.1 + (IntKind.i64.wrap ((if IntKind.i64.wrap (x7 - x3) < s2.1 then IntKind.i64.wrap (x7 - x3) else s2.1) * x11))), 3, s2.2.2.2.1, s2.2.2.2.2.1, s2.2.2.2.2.2.1, 1)
        else .out none
    else if s2.2.2.2.2.2.2 = 1 then
     if s2.2.2.2.1 = 0 then
      .next (IntKind.i64.wrap (s2.1 - (if IntKind.i64.wrap (x4 - x0) < s2.1 then IntKind.i64.wrap (x4 - x0) else s2.1)), IntKind.i64.wrap (s2.2.1 + (IntKind.i64.wrap ((if IntKind.i64.wrap (x4 - x0) < s2.1 then IntKind.i64.wrap (x4 - x0) else s2.1) * x8))), s2.2.2.1, 0, s2.2.2.2.2.1, s2.2.2.2.2.2.1, 2)
      else if s2.2.2.2.1 = 1 then
       .next (IntKind.i64.wrap (s2.1 - (if IntKind.i64.wrap (x5 - x1) < s2.1 then IntKind.i64.wrap (x5 - x1) else s2.1)), IntKind.i64.wrap (s2.2.1 + (IntKind.i64.wrap ((if IntKind.i64.wrap (x5 - x1) < s2.1 then IntKind.i64.wrap (x5 - x1) else s2.1) * x9))), s2.2.2.1, 1, s2.2.2.2.2.1, s2.2.2.2.2.2.1, 2)
       else if s2.2.2.2.1 = 2 then
        .next (IntKind.i64.wrap (s2.1 - (if IntKind.i64.wrap (x6 - x2) < s2.1 then IntKind.i64.wrap (x6 - x2) else s2.1)), IntKind.i64.wrap (s2.2.1 + (IntKind.i64.wrap ((if IntKind.i64.wrap (x6 - x2) < s2.1 then IntKind.i64.wrap (x6 - x2) else s2.1) * x10))), s2.2.2.1, 2, s2.2.2.2.2.1, s2.2.2.2.2.2.1, 2)
        else if s2.2.2.2.1 = 3 then
         .next (IntKind.i64.wrap (s2.1 - (if IntKind.i64.wrap (x7 - x3) < s2.1 then IntKind.i64.wrap (x7 - x3) else s2.1)), IntKind.i64.wrap (s2.2.1 + (IntKind.i64.wrap ((if IntKind.i64.wrap (x7 - x3) < s2.1 then IntKind.i64.wrap (x7 - x3) else s2.1) * x11))), s2.2.2.1, 3, s2.2.2.2.2.1, s2.2.2.2.2.2.1, 2)
         else .out none
     else if s2.2.2.2.2.2.2 = 2 then
      if s2.2.2.2.2.1 = 0 then
       .next (IntKind.i64.wrap (s2.1 - (if IntKind.i64.wrap (x4 - x0) < s2.1 then IntKind.i64.wrap (x4 - x0) else s2.1)), IntKind.i64.wrap (s2.2.1 + (IntKind.i64.wrap ((if IntKind.i64.wrap (x4 - x0) < s2.1 then IntKind.i64.wrap (x4 - x0) else s2.1) * x8))), s2.2.2.1, s2.2.2.2.1, 0, s2.2.2.2.2.2.1, 3)
       else if s2.2.2.2.2.1 = 1 then
        .next (IntKind.i64.wrap (s2.1 - (if IntKind.i64.wrap (x5 - x1) < s2.1 then IntKind.i64.wrap (x5 - x1) else s2.1)), IntKind.i64.wrap (s2.2.1 + (IntKind.i64.wrap ((if IntKind.i64.wrap (x5 - x1) < s2.1 then IntKind.i64.wrap (x5 - x1) else s2.1) * x9))), s2.2.2.1, s2.2.2.2.1, 1, s2.2.2.2.2.2.1, 3)
        else if s2.2.2.2.2.1 = 2 then
         .next (IntKind.i64.wrap (s2.1 - (if IntKind.i64.wrap (x6 - x2) < s2.1 then IntKind.i64.wrap (x6 - x2) else s2.1)), IntKind.i64.wrap (s2.2.1 + (IntKind.i64.wrap ((if IntKind.i64.wrap (x6 - x2) < s2.1 then IntKind.i64.wrap (x6 - x2) else s2.1) * x10))), s2.2.2.1, s2.2.2.2.1, 2, s2.2.2.2.2.2.1, 3)
         else if s2.2.2.2.2.1 = 3 then
          .next (IntKind.i64.wrap (s2.1 - (if IntKind.i64.wrap (x7 - x3) < s2.1 then IntKind.i64.wrap (x7 - x3) else s2.1)), IntKind.i64.wrap (s2.2.1 + (IntKind.i64.wrap ((if IntKind.i64.wrap (x7 - x3) < s2.1 then IntKind.i64.wrap (x7 - x3) else s2.1) * x11))), s2.2.2.1, s2.2.2.2.1, 3, s2.2.2.2.2.2.1, 3)
          else .out none
      else if s2.2.2.2.2.2.2 = 3 then
       if s2.2.2.2.2.2.1 = 0 then
        .next (IntKind.i64.wrap (s2.1 - (if IntKind.i64.wrap (x4 - x0) < s2.1 then IntKind.i64.wrap (x4 - x0) else s2.1)), IntKind.i64.wrap (s2.2.1 + (IntKind.i64.wrap ((if IntKind.i64.wrap (x4 - x0) < s2.1 then IntKind.i64.wrap (x4 - x0) else s2.1) * x8))), s2.2.2.1, s2.2.2.2.1, s2.2.2.2.2.1, 0, 4)
        else if s2.2.2.2.2.2.1 = 1 then
         .next (IntKind.i64.wrap (s2.1 - (if IntKind.i64.wrap (x5 - x1) < s2.1 then IntKind.i64.wrap (x5 - x1) else s2.1)), IntKind.i64.wrap (s2.2.1 + (IntKind.i64.wrap ((if IntKind.i64.wrap (x5 - x1) < s2.1 then IntKind.i64.wrap (x5 - x1) else s2.1) * x9))), s2.2.2.1, s2.2.2.2.1, s2.2.2.2.2.1, 1, 4)
         else if s2.2.2.2.2.2.1 = 2 then
          .next (IntKind.i64.wrap (s2.1 - (if IntKind.i64.wrap (x6 - x2) < s2.1 then IntKind.i64.wrap (x6 - x2) else s2.1)), IntKind.i64.wrap (s2.2.1 + (IntKind.i64.wrap ((if IntKind.i64.wrap (x6 - x2) < s2.1 then IntKind.i64.wrap (x6 - x2) else s2.1) * x10))), s2.2.2.1, s2.2.2.2.1, s2.2.2.2.2.1, 2, 4)
          else if s2.2.2.2.2.2.1 = 3 then
           .next (IntKind.i64.wrap (s2.1 - (if IntKind.i64.wrap (x7 - x3) < s2.1 then IntKind.i64.wrap (x7 - x3) else s2.1)), IntKind.i64.wrap (s2.2.1 + (IntKind.i64.wrap ((if IntKind.i64.wrap (x7 - x3) < s2.1 then IntKind.i64.wrap (x7 - x3) else s2.1) * x11))), s2.2.2.1, s2.2.2.2.1, s2.2.2.2.2.1, 3, 4)
           else .out none
       else .out none
   else .out (some (IntKind.i64.wrap (s2.2.1.tdiv 1000000)))
def b53_1 (x0 x4 x1 x5 x2 x6 x3 x7 x8 x9 x10 x11 x12 x13 x14 x15 : Int) : Bd (Int × Int × Int) Int := fun s1 =>
  if (decide (s1.2.2 < 4)) = true then
   if s1.2.2 = 0 then
    .next (IntKind.i64.wrap (s1.1 - x0), IntKind.i64.wrap (s1.2.1 + (IntKind.i64.wrap (x0 * x8))), 1)
    else if s1.2.2 = 1 then
     .next (IntKind.i64.wrap (s1.1 - x1), IntKind.i64.wrap (s1.2.1 + (IntKind.i64.wrap (x1 * x9))), 2)
     else if s1.2.2 = 2 then
      .next (IntKind.i64.wrap (s1.1 - x2), IntKind.i64.wrap (s1.2.1 + (IntKind.i64.wrap (x2 * x10))), 3)
      else if s1.2.2 = 3 then
       .next (IntKind.i64.wrap (s1.1 - x3), IntKind.i64.wrap (s1.2.1 + (IntKind.i64.wrap (x3 * x11))), 4)
       else .out none
   else .out (iterC (b53_2 x0 x4 x1 x5 x2 x6 x3 x7 x8 x9 x10 x11) 1000000000 (s1.1, s1.2.1, x12, x13, x14, x15, 0))
def r53 (x0 x4 x1 x5 x2 x6 x3 x7 x8 x9 x10 x11 x12 x13 x14 x15 : Int) : Option (Int) :=
  iterC (b53_1 x0 x4 x1 x5 x2 x6 x3 x7 x8 x9 x10 x11 x12 x13 x14 x15) 1000000000 (1000000, 0, 0)
def T53 := qT26 qu4 false r53
attribute [go_sem] T53
def tb53 : Fns := lk []
theorem tb53_ok : FnsOk Tryd.prog tb53 := FnsOk.nil
section
attribute [local go_sem] Tryd.results53
theorem f53 : FnFact Tryd.prog 53 T53.sp := by
  refine valid_m ty_ok tb53_ok Tryd.func53 rfl Tryd.ntmps53 fun ⟨x0, x4, x1, x5, x2, x6, x3, x7, x8, x9, x10, x11, x12, x13, x14, x15⟩ r hr => ⟨nL rfl, fun stop S => ?_⟩
  replace hr : r53 x0 x4 x1 x5 x2 x6 x3 x7 x8 x9 x10 x11 x12 x13 x14 x15 = some r := hr
  unfold r53 at hr
  refine S.gx [4, 10, 11] ?_
  refine gr ?_
  refine S.sees [3, 4, 5, 7, 8, 14, 15] [(3, 3), (4, 4), (5, 5)] [] ?_ (Stop.iter S (fun s1 => ⟨[(3, .c (.ref 3 0)), (4, .c (.ref 4 0)), (5, .c (.ref 5 0)), (7, .c (.d (.int .i64 s1.1))), (8, .c (.d (.int .i64 s1.2.1))), (14, .agg [.d (.int .i64 x0), .d (.int .i64 x4), .d (.int .i64 x1), .d (.int .i64 x5), .d (.int .i64 x2), .d (.int .i64 x6), .d (.int .i64 x3), .d (.int .i64 x7)]), (15, .c (.d (.int .i64 s1.2.2)))], [(3, [.d (.int .i64 x0), .d (.int .i64 x4), .d (.int .i64 x1), .d (.int .i64 x5), .d (.int .i64 x2), .d (.int .i64 x6), .d (.int .i64 x3), .d (.int .i64 x7)]), (4, [.d (.int .i64 x8), .d (.int .i64 x9), .d (.int .i64 x10), .d (.int .i64 x11)]), (5, [.d (.int .i64 x12), .d (.int .i64 x13), .d (.int .i64 x14), .d (.int .i64 x15)])], []⟩) (b53_1 x0 x4 x1 x5 x2 x6 x3 x7 x8 x9 x10 x11 x12 x13 x14 x15) (fun q => q = r) hr rfl ?_)
  · exact lf
  · intro s1 hr
    unfold b53_1 at hr
    refine S.gx [4, 10, 11] ?_
    refine gr ?_
    refine iW1 hr (fun hc hr => ?_) fun hc hr => ?_
    · refine gr ?_
      by_cases hs4 : s1.2.2 = 0
      · rw [if_pos hs4] at hr
        simp only [hs4]
        refine S.gx [10, 11] ?_
        exact D1 (S.ss [3, 4, 5, 7, 8, 14, 15] [(3, 3), (4, 4), (5, 5)] []) hr
      · rw [if_neg hs4] at hr
        by_cases hs3 : s1.2.2 = 1
        · rw [if_pos hs3] at hr
          simp only [hs3]
          refine S.gx [10, 11] ?_
          exact D1 (S.ss [3, 4, 5, 7, 8, 14, 15] [(3, 3), (4, 4), (5, 5)] []) hr
        · rw [if_neg hs3] at hr
          by_cases hs2 : s1.2.2 = 2
          · rw [if_pos hs2] at hr
            simp only [hs2]
            refine S.gx [10, 11] ?_
            exact D1 (S.ss [3, 4, 5, 7, 8, 14, 15] [(3, 3), (4, 4), (5, 5)] []) hr
          · rw [if_neg hs2] at hr
            by_cases hs1 : s1.2.2 = 3
            · rw [if_pos hs1] at hr
              simp only [hs1]
              refine S.gx [10, 11] ?_
              exact D1 (S.ss [3, 4, 5, 7, 8, 14, 15] [(3, 3), (4, 4), (5, 5)] []) hr
            · rw [if_neg hs1] at hr
              first | cases hr | exact hr.elim
    · refine gr ?_
      have hr := of_out0 hr
      refine gr ?_
      refine S.sees [3, 4, 7, 8, 32, 33] [(3, 3), (4, 4)] [] ?_ (Stop.iter S (fun s2 => ⟨[(3, .c (.ref 3 0)), (4, .c (.ref 4 0)), (7, .c (.d (.int .i64 s2.1))), (8, .c (.d (.int .i64 s2.2.1))), (32, .agg [.d (.int .i64 s2.2.2.1), .d (.int .i64 s2.2.2.2.1), .d (.int .i64 s2.2.2.2.2.1), .d (.int .i64 s2.2.2.2.2.2.1)]), (33, .c (.d (.int .i64 s2.2.2.2.2.2.2)))], [(3, [.d (.int .i64 x0), .d (.int .i64 x4), .d (.int .i64 x1), .d (.int .i64 x5), .d (.int .i64 x2), .d (.int .i64 x6), .d (.int .i64 x3), .d (.int .i64 x7)]), (4, [.d (.int .i64 x8), .d (.int .i64 x9), .d (.int .i64 x10), .d (.int .i64 x11)])], []⟩) (b53_2 x0 x4 x1 x5 x2 x6 x3 x7 x8 x9 x10 x11) (fun q => q = r) hr rfl ?_)
      · exact lf
      · intro s2 hr
        unfold b53_2 at hr
        refine S.gx [4, 10, 11] ?_
        refine gr ?_
        refine iW1 hr (fun hc hr => ?_) fun hc hr => D0 hr
        refine gr ?_
        by_cases hs20 : s2.2.2.2.2.2.2 = 0
        · rw [if_pos hs20] at hr
          simp only [hs20]
          refine S.gx [4, 11] ?_
          refine gr ?_
          refine gr ?_
          by_cases hs24 : s2.2.2.1 = 0
          · rw [if_pos hs24] at hr
            simp only [hs24]
            refine S.gx [4, 10] ?_
            exact D1 (S.ss [3, 4, 7, 8, 32, 33] [(3, 3), (4, 4)] []) hr
          · rw [if_neg hs24] at hr
            by_cases hs23 : s2.2.2.1 = 1
            · rw [if_pos hs23] at hr
              simp only [hs23]
              refine S.gx [4, 10] ?_
              exact D1 (S.ss [3, 4, 7, 8, 32, 33] [(3, 3), (4, 4)] []) hr
            · rw [if_neg hs23] at hr
              by_cases hs22 : s2.2.2.1 = 2
              · rw [if_pos hs22] at hr
                simp only [hs22]
                refine S.gx [4, 10] ?_
                exact D1 (S.ss [3, 4, 7, 8, 32, 33] [(3, 3), (4, 4)] []) hr
              · rw [if_neg hs22] at hr
                by_cases hs21 : s2.2.2.1 = 3
                · rw [if_pos hs21] at hr
                  simp only [hs21]
                  refine S.gx [4, 10] ?_
                  exact D1 (S.ss [3, 4, 7, 8, 32, 33] [(3, 3), (4, 4)] []) hr
                · rw [if_neg hs21] at hr
                  first | cases hr | exact hr.elim
        · rw [if_neg hs20] at hr
          by_cases hs15 : s2.2.2.2.2.2.2 = 1
          · rw [if_pos hs15] at hr
            simp only [hs15]
            refine S.gx [4, 11] ?_
            refine gr ?_
            refine gr ?_
            by_cases hs19 : s2.2.2.2.1 = 0
            · rw [if_pos hs19] at hr
              simp only [hs19]
              refine S.gx [4, 10] ?_
              exact D1 (S.ss [3, 4, 7, 8, 32, 33] [(3, 3), (4, 4)] []) hr
            · rw [if_neg hs19] at hr
              by_cases hs18 : s2.2.2.2.1 = 1
              · rw [if_pos hs18] at hr
                simp only [hs18]
                refine S.gx [4, 10] ?_
                exact D1 (S.ss [3, 4, 7, 8, 32, 33] [(3, 3), (4, 4)] []) hr
              · rw [if_neg hs18] at hr
                by_cases hs17 : s2.2.2.2.1 = 2
                · rw [if_pos hs17] at hr
                  simp only [hs17]
                  refine S.gx [4, 10] ?_
                  exact D1 (S.ss [3, 4, 7, 8, 32, 33] [(3, 3), (4, 4)] []) hr
                · rw [if_neg hs17] at hr
                  by_cases hs16 : s2.2.2.2.1 = 3
                  · rw [if_pos hs16] at hr
                    simp only [hs16]
                    refine S.gx [4, 10] ?_
                    exact D1 (S.ss [3, 4, 7, 8, 32, 33] [(3, 3), (4, 4)] []) hr
                  · rw [if_neg hs16] at hr
                    first | cases hr | exact hr.elim
          · rw [if_neg hs15] at hr
            by_cases hs10 : s2.2.2.2.2.2.2 = 2
            · rw [if_pos hs10] at hr
              simp only [hs10]
              refine S.gx [4, 11] ?_
              refine gr ?_
              refine gr ?_
              by_cases hs14 : s2.2.2.2.2.1 = 0
              · rw [if_pos hs14] at hr
                simp only [hs14]
                refine S.gx [4, 10] ?_
                exact D1 (S.ss [3, 4, 7, 8, 32, 33] [(3, 3), (4, 4)] []) hr
              · rw [if_neg hs14] at hr
                by_cases hs13 : s2.2.2.2.2.1 = 1
                · rw [if_pos hs13] at hr
                  simp only [hs13]
                  refine S.gx [4, 10] ?_
                  exact D1 (S.ss [3, 4, 7, 8, 32, 33] [(3, 3), (4, 4)] []) hr
                · rw [if_neg hs13] at hr
                  by_cases hs12 : s2.2.2.2.2.1 = 2
                  · rw [if_pos hs12] at hr
                    simp only [hs12]
                    refine S.gx [4, 10] ?_
                    exact D1 (S.ss [3, 4, 7, 8, 32, 33] [(3, 3), (4, 4)] []) hr
                  · rw [if_neg hs12] at hr
                    by_cases hs11 : s2.2.2.2.2.1 = 3
                    · rw [if_pos hs11] at hr
                      simp only [hs11]
                      refine S.gx [4, 10] ?_
                      exact D1 (S.ss [3, 4, 7, 8, 32, 33] [(3, 3), (4, 4)] []) hr
                    · rw [if_neg hs11] at hr
                      first | cases hr | exact hr.elim
            · rw [if_neg hs10] at hr
              by_cases hs5 : s2.2.2.2.2.2.2 = 3
              · rw [if_pos hs5] at hr
                simp only [hs5]
                refine S.gx [4, 11] ?_
                refine gr ?_
                refine gr ?_
                by_cases hs9 : s2.2.2.2.2.2.1 = 0
                · rw [if_pos hs9] at hr
                  simp only [hs9]
                  refine S.gx [4, 10] ?_
                  exact D1 (S.ss [3, 4, 7, 8, 32, 33] [(3, 3), (4, 4)] []) hr
                · rw [if_neg hs9] at hr
                  by_cases hs8 : s2.2.2.2.2.2.1 = 1
                  · rw [if_pos hs8] at hr
                    simp only [hs8]
                    refine S.gx [4, 10] ?_
                    exact D1 (S.ss [3, 4, 7, 8, 32, 33] [(3, 3), (4, 4)] []) hr
                  · rw [if_neg hs8] at hr
                    by_cases hs7 : s2.2.2.2.2.2.1 = 2
                    · rw [if_pos hs7] at hr
                      simp only [hs7]
                      refine S.gx [4, 10] ?_
                      exact D1 (S.ss [3, 4, 7, 8, 32, 33] [(3, 3), (4, 4)] []) hr
                    · rw [if_neg hs7] at hr
                      by_cases hs6 : s2.2.2.2.2.2.1 = 3
                      · rw [if_pos hs6] at hr
                        simp only [hs6]
                        refine S.gx [4, 10] ?_
                        exact D1 (S.ss [3, 4, 7, 8, 32, 33] [(3, 3), (4, 4)] []) hr
                      · rw [if_neg hs6] at hr
                        first | cases hr | exact hr.elim
              · rw [if_neg hs5] at hr
                first | cases hr | exact hr.elim
end

/- (martensite/steel.rules).band -/
def r36 (x0 : L_IIII) (x1 : L_IIIII) (x2 : L_III) (x3 : L_II) (x4 x5 x6 x7 x10 x11 x12 x13 x14 x15 x16 x17 x18 x19 x20 x21 x8 x9 : Int) : Option (Int × Int) :=
  (r52 x10 x11 x12 x13 x14 x15 x16 x17 x18 x19 x20 x21 x8 x9).bind fun v1 =>
   (r34 x0 x1 x2 x3 x4 x5 x6 x7 x9).bind fun v2 =>
    (r53 v1.1 v1.2.1 v1.2.2.1 v1.2.2.2.1 v1.2.2.2.2.1 v1.2.2.2.2.2.1 v1.2.2.2.2.2.2.1 v1.2.2.2.2.2.2.2 v2.1 v2.2.1 v2.2.2.1 v2.2.2.2 0 1 2 3).bind fun v3 =>
     (r34 x0 x1 x2 x3 x4 x5 x6 x7 x8).bind fun v4 =>
      (r53 v1.1 v1.2.1 v1.2.2.1 v1.2.2.2.1 v1.2.2.2.2.1 v1.2.2.2.2.2.1 v1.2.2.2.2.2.2.1 v1.2.2.2.2.2.2.2 v4.1 v4.2.1 v4.2.2.1 v4.2.2.2 3 2 1 0).bind fun v5 =>
       some (v3, v5)
def T36 := qT27 qu13 false r36
attribute [go_sem] T36
def tb36 : Fns := lk [(34, T34.sp), (52, T52.sp), (53, T53.sp)]
theorem tb36_ok : FnsOk Tryd.prog tb36 := .cons f34 (.cons f52 (.cons f53 .nil))
theorem tk36 : tb36 34 = some T34.sp ∧ tb36 52 = some T52.sp ∧ tb36 53 = some T53.sp := ⟨rfl, rfl, rfl⟩
section
attribute [local go_sem] tk36 Tryd.results36
theorem f36 : FnFact Tryd.prog 36 T36.sp := by
  refine valid_m ty_ok tb36_ok Tryd.func36 rfl Tryd.ntmps36 fun ⟨x0, x1, x2, x3, x4, x5, x6, x7, x10, x11, x12, x13, x14, x15, x16, x17, x18, x19, x20, x21, x8, x9⟩ r hr => ⟨nL rfl, fun stop S => ?_⟩
  replace hr : r36 x0 x1 x2 x3 x4 x5 x6 x7 x10 x11 x12 x13 x14 x15 x16 x17 x18 x19 x20 x21 x8 x9 = some r := hr
  unfold r36 at hr
  refine S.gx [] ?_
  exact D0 hr
end
end Go.Proofs.YthcpkkpjegldoaaDoor

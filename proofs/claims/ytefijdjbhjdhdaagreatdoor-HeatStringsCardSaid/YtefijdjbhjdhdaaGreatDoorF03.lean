/- Contracts of functions, written by wip/dec. -/
import Derived.Test.YtefijdjbhjdhdaaGreatDoorF00
import Derived.Test.YtefijdjbhjdhdaaGreatDoorF01
import Derived.Test.YtefijdjbhjdhdaaGreatDoorF02
set_option linter.unusedVariables false
set_option linter.unusedSimpArgs false
set_option maxHeartbeats 4000000
set_option maxRecDepth 20000
namespace Go.Proofs.YtefijdjbhjdhdaaGreatDoor
open Go.Abs
abbrev qA21 := (List (Int)) × Int × Int × (List (Int × Int)) × (List ((List (Int × Int)))) × (List (Int × Int)) × (List ((List (Int × Int))))
def qw21 (a0 : List (Int)) (a1 : Int) (a2 : Int) (a3 : List (Int × Int)) (a4 : List ((List (Int × Int)))) (a5 : List (Int × Int)) (a6 : List ((List (Int × Int)))) : List Arg := [.c (encF 1 d_I a0), .clo 77 [[.int .i64 a1, .int .i64 a2, encF 2 d_II a3, encF 1 d_LIIE a4, encF 2 d_II a5, encF 1 d_LIIE a6]]]
def qE21 : qA21 → List Arg := fun ⟨a0, a1, a2, a3, a4, a5, a6⟩ => qw21 a0 a1 a2 a3 a4 a5 a6
def qd21 (a : List Arg) : qA21 := (decF g_I (aCell a 0 0), dInt (aCell a 1 0), dInt (aCell a 1 1), decF g_II (aCell a 1 2), decF g_LIIE (aCell a 1 3), decF g_II (aCell a 1 4), decF g_LIIE (aCell a 1 5))
def qp21 {β : Type} (f : (List (Int)) → Int → Int → (List (Int × Int)) → (List ((List (Int × Int)))) → (List (Int × Int)) → (List ((List (Int × Int)))) → β) (c0 c1 c2 c3 c4 c5 c6 : D) : β := f (decF g_I c0) (dInt c1) (dInt c2) (decF g_II c3) (decF g_LIIE c4) (decF g_II c5) (decF g_LIIE c6)
def qt21 (c0 c1 c2 c3 c4 c5 c6 : D) : List Arg := [.c c0, .clo 77 [[c1, c2, c3, c4, c5, c6]]]
attribute [go_sem] qw21 qp21 qt21 qE21
abbrev qA22 := Int × Int × (List (Int × Int)) × (List ((List (Int × Int)))) × (List (Int × Int)) × (List ((List (Int × Int)))) × (List (Int)) × (List (Int)) × Int
def qw22 (a0 : Int) (a1 : Int) (a2 : List (Int × Int)) (a3 : List ((List (Int × Int)))) (a4 : List (Int × Int)) (a5 : List ((List (Int × Int)))) (a6 : List (Int)) (a7 : List (Int)) (a8 : Int) : List Arg := [.agg [.int .i64 a0, .int .i64 a1, encF 2 d_II a2, encF 1 d_LIIE a3, encF 2 d_II a4, encF 1 d_LIIE a5], .c (encF 1 d_I a6), .agg [encF 1 d_I a7, .int .i64 a8]]
def qE22 : qA22 → List Arg := fun ⟨a0, a1, a2, a3, a4, a5, a6, a7, a8⟩ => qw22 a0 a1 a2 a3 a4 a5 a6 a7 a8
def qd22 (a : List Arg) : qA22 := (dInt (aCell a 0 0), dInt (aCell a 0 1), decF g_II (aCell a 0 2), decF g_LIIE (aCell a 0 3), decF g_II (aCell a 0 4), decF g_LIIE (aCell a 0 5), decF g_I (aCell a 1 0), decF g_I (aCell a 2 0), dInt (aCell a 2 1))
def qp22 {β : Type} (f : Int → Int → (List (Int × Int)) → (List ((List (Int × Int)))) → (List (Int × Int)) → (List ((List (Int × Int)))) → (List (Int)) → (List (Int)) → Int → β) (c0 c1 c2 c3 c4 c5 c6 c7 c8 : D) : β := f (dInt c0) (dInt c1) (decF g_II c2) (decF g_LIIE c3) (decF g_II c4) (decF g_LIIE c5) (decF g_I c6) (decF g_I c7) (dInt c8)
def qt22 (c0 c1 c2 c3 c4 c5 c6 c7 c8 : D) : List Arg := [.agg [c0, c1, c2, c3, c4, c5], .c c6, .agg [c7, c8]]
attribute [go_sem] qw22 qp22 qt22 qE22
abbrev qA23 := Int × Int × (List (Int × Int)) × (List ((List (Int × Int)))) × (List (Int)) × (List (Int)) × Int
def qw23 (a0 : Int) (a1 : Int) (a2 : List (Int × Int)) (a3 : List ((List (Int × Int)))) (a4 : List (Int)) (a5 : List (Int)) (a6 : Int) : List Arg := [.agg [.int .i64 a0, .int .i64 a1, encF 2 d_II a2, encF 1 d_LIIE a3], .c (encF 1 d_I a4), .agg [encF 1 d_I a5, .int .i64 a6]]
def qE23 : qA23 → List Arg := fun ⟨a0, a1, a2, a3, a4, a5, a6⟩ => qw23 a0 a1 a2 a3 a4 a5 a6
def qd23 (a : List Arg) : qA23 := (dInt (aCell a 0 0), dInt (aCell a 0 1), decF g_II (aCell a 0 2), decF g_LIIE (aCell a 0 3), decF g_I (aCell a 1 0), decF g_I (aCell a 2 0), dInt (aCell a 2 1))
def qp23 {β : Type} (f : Int → Int → (List (Int × Int)) → (List ((List (Int × Int)))) → (List (Int)) → (List (Int)) → Int → β) (c0 c1 c2 c3 c4 c5 c6 : D) : β := f (dInt c0) (dInt c1) (decF g_II c2) (decF g_LIIE c3) (decF g_I c4) (decF g_I c5) (dInt c6)
def qt23 (c0 c1 c2 c3 c4 c5 c6 : D) : List Arg := [.agg [c0, c1, c2, c3], .c c4, .agg [c5, c6]]
attribute [go_sem] qw23 qp23 qt23 qE23
abbrev qA24 := Int × Int × (List (Int × Int)) × (List ((List (Int × Int)))) × (List (Int × Int)) × (List ((List (Int × Int)))) × (List (Int)) × (List (Int))
def qw24 (a0 : Int) (a1 : Int) (a2 : List (Int × Int)) (a3 : List ((List (Int × Int)))) (a4 : List (Int × Int)) (a5 : List ((List (Int × Int)))) (a6 : List (Int)) (a7 : List (Int)) : List Arg := [.agg [.int .i64 a0, .int .i64 a1, encF 2 d_II a2, encF 1 d_LIIE a3, encF 2 d_II a4, encF 1 d_LIIE a5], .agg [encF 1 d_I a6, encF 1 d_I a7]]
def qE24 : qA24 → List Arg := fun ⟨a0, a1, a2, a3, a4, a5, a6, a7⟩ => qw24 a0 a1 a2 a3 a4 a5 a6 a7
def qd24 (a : List Arg) : qA24 := (dInt (aCell a 0 0), dInt (aCell a 0 1), decF g_II (aCell a 0 2), decF g_LIIE (aCell a 0 3), decF g_II (aCell a 0 4), decF g_LIIE (aCell a 0 5), decF g_I (aCell a 1 0), decF g_I (aCell a 1 1))
def qp24 {β : Type} (f : Int → Int → (List (Int × Int)) → (List ((List (Int × Int)))) → (List (Int × Int)) → (List ((List (Int × Int)))) → (List (Int)) → (List (Int)) → β) (c0 c1 c2 c3 c4 c5 c6 c7 : D) : β := f (dInt c0) (dInt c1) (decF g_II c2) (decF g_LIIE c3) (decF g_II c4) (decF g_LIIE c5) (decF g_I c6) (decF g_I c7)
def qt24 (c0 c1 c2 c3 c4 c5 c6 c7 : D) : List Arg := [.agg [c0, c1, c2, c3, c4, c5], .agg [c6, c7]]
attribute [go_sem] qw24 qp24 qt24 qE24
abbrev qA25 := Int × Int × (List (Int × Int)) × (List ((List (Int × Int)))) × (List (Int)) × (List (Int))
def qw25 (a0 : Int) (a1 : Int) (a2 : List (Int × Int)) (a3 : List ((List (Int × Int)))) (a4 : List (Int)) (a5 : List (Int)) : List Arg := [.agg [.int .i64 a0, .int .i64 a1, encF 2 d_II a2, encF 1 d_LIIE a3], .agg [encF 1 d_I a4, encF 1 d_I a5]]
def qE25 : qA25 → List Arg := fun ⟨a0, a1, a2, a3, a4, a5⟩ => qw25 a0 a1 a2 a3 a4 a5
def qd25 (a : List Arg) : qA25 := (dInt (aCell a 0 0), dInt (aCell a 0 1), decF g_II (aCell a 0 2), decF g_LIIE (aCell a 0 3), decF g_I (aCell a 1 0), decF g_I (aCell a 1 1))
def qp25 {β : Type} (f : Int → Int → (List (Int × Int)) → (List ((List (Int × Int)))) → (List (Int)) → (List (Int)) → β) (c0 c1 c2 c3 c4 c5 : D) : β := f (dInt c0) (dInt c1) (decF g_II c2) (decF g_LIIE c3) (decF g_I c4) (decF g_I c5)
def qt25 (c0 c1 c2 c3 c4 c5 : D) : List Arg := [.agg [c0, c1, c2, c3], .agg [c4, c5]]
attribute [go_sem] qw25 qp25 qt25 qE25
abbrev qA26 := Int × Int × (List (Int × Int)) × (List ((List (Int × Int)))) × (List (Int × Int)) × (List ((List (Int × Int)))) × (List (Int × Int)) × Int × Int
def qw26 (a0 : Int) (a1 : Int) (a2 : List (Int × Int)) (a3 : List ((List (Int × Int)))) (a4 : List (Int × Int)) (a5 : List ((List (Int × Int)))) (a6 : List (Int × Int)) (a7 : Int) (a8 : Int) : List Arg := [.agg [.int .i64 a0, .int .i64 a1, encF 2 d_II a2, encF 1 d_LIIE a3, encF 2 d_II a4, encF 1 d_LIIE a5], .agg [encF 2 d_II a6, .int .i64 a7, .int .i64 a8]]
def qE26 : qA26 → List Arg := fun ⟨a0, a1, a2, a3, a4, a5, a6, a7, a8⟩ => qw26 a0 a1 a2 a3 a4 a5 a6 a7 a8
def qd26 (a : List Arg) : qA26 := (dInt (aCell a 0 0), dInt (aCell a 0 1), decF g_II (aCell a 0 2), decF g_LIIE (aCell a 0 3), decF g_II (aCell a 0 4), decF g_LIIE (aCell a 0 5), decF g_II (aCell a 1 0), dInt (aCell a 1 1), dInt (aCell a 1 2))
def qp26 {β : Type} (f : Int → Int → (List (Int × Int)) → (List ((List (Int × Int)))) → (List (Int × Int)) → (List ((List (Int × Int)))) → (List (Int × Int)) → Int → Int → β) (c0 c1 c2 c3 c4 c5 c6 c7 c8 : D) : β := f (dInt c0) (dInt c1) (decF g_II c2) (decF g_LIIE c3) (decF g_II c4) (decF g_LIIE c5) (decF g_II c6) (dInt c7) (dInt c8)
def qt26 (c0 c1 c2 c3 c4 c5 c6 c7 c8 : D) : List Arg := [.agg [c0, c1, c2, c3, c4, c5], .agg [c6, c7, c8]]
attribute [go_sem] qw26 qp26 qt26 qE26
abbrev qA27 := (List (Int × Int)) × Int × Int
def qw27 (a0 : List (Int × Int)) (a1 : Int) (a2 : Int) : List Arg := [.agg [encF 2 d_II a0, .int .i64 a1, .int .i64 a2]]
def qE27 : qA27 → List Arg := fun ⟨a0, a1, a2⟩ => qw27 a0 a1 a2
def qd27 (a : List Arg) : qA27 := (decF g_II (aCell a 0 0), dInt (aCell a 0 1), dInt (aCell a 0 2))
def qp27 {β : Type} (f : (List (Int × Int)) → Int → Int → β) (c0 c1 c2 : D) : β := f (decF g_II c0) (dInt c1) (dInt c2)
def qt27 (c0 c1 c2 : D) : List Arg := [.agg [c0, c1, c2]]
attribute [go_sem] qw27 qp27 qt27 qE27
abbrev qA28 := Int × Int × (List (Int × Int)) × (List ((List (Int × Int)))) × (List (Int × Int)) × (List ((List (Int × Int)))) × (List (Int)) × (List (Int)) × (List (Int × Int)) × Int × Int
def qw28 (a0 : Int) (a1 : Int) (a2 : List (Int × Int)) (a3 : List ((List (Int × Int)))) (a4 : List (Int × Int)) (a5 : List ((List (Int × Int)))) (a6 : List (Int)) (a7 : List (Int)) (a8 : List (Int × Int)) (a9 : Int) (a10 : Int) : List Arg := [.agg [.int .i64 a0, .int .i64 a1, encF 2 d_II a2, encF 1 d_LIIE a3, encF 2 d_II a4, encF 1 d_LIIE a5], .agg [encF 1 d_I a6, encF 1 d_I a7], .agg [encF 2 d_II a8, .int .i64 a9, .int .i64 a10]]
def qE28 : qA28 → List Arg := fun ⟨a0, a1, a2, a3, a4, a5, a6, a7, a8, a9, a10⟩ => qw28 a0 a1 a2 a3 a4 a5 a6 a7 a8 a9 a10
def qd28 (a : List Arg) : qA28 := (dInt (aCell a 0 0), dInt (aCell a 0 1), decF g_II (aCell a 0 2), decF g_LIIE (aCell a 0 3), decF g_II (aCell a 0 4), decF g_LIIE (aCell a 0 5), decF g_I (aCell a 1 0), decF g_I (aCell a 1 1), decF g_II (aCell a 2 0), dInt (aCell a 2 1), dInt (aCell a 2 2))
def qp28 {β : Type} (f : Int → Int → (List (Int × Int)) → (List ((List (Int × Int)))) → (List (Int × Int)) → (List ((List (Int × Int)))) → (List (Int)) → (List (Int)) → (List (Int × Int)) → Int → Int → β) (c0 c1 c2 c3 c4 c5 c6 c7 c8 c9 c10 : D) : β := f (dInt c0) (dInt c1) (decF g_II c2) (decF g_LIIE c3) (decF g_II c4) (decF g_LIIE c5) (decF g_I c6) (decF g_I c7) (decF g_II c8) (dInt c9) (dInt c10)
def qt28 (c0 c1 c2 c3 c4 c5 c6 c7 c8 c9 c10 : D) : List Arg := [.agg [c0, c1, c2, c3, c4, c5], .agg [c6, c7], .agg [c8, c9, c10]]
attribute [go_sem] qw28 qp28 qt28 qE28
abbrev qA29 := Int × Int × (List (Int × Int)) × (List ((List (Int × Int)))) × (List (Int)) × (List (Int)) × (List (Int × Int)) × Int × Int
def qw29 (a0 : Int) (a1 : Int) (a2 : List (Int × Int)) (a3 : List ((List (Int × Int)))) (a4 : List (Int)) (a5 : List (Int)) (a6 : List (Int × Int)) (a7 : Int) (a8 : Int) : List Arg := [.agg [.int .i64 a0, .int .i64 a1, encF 2 d_II a2, encF 1 d_LIIE a3], .agg [encF 1 d_I a4, encF 1 d_I a5], .agg [encF 2 d_II a6, .int .i64 a7, .int .i64 a8]]
def qE29 : qA29 → List Arg := fun ⟨a0, a1, a2, a3, a4, a5, a6, a7, a8⟩ => qw29 a0 a1 a2 a3 a4 a5 a6 a7 a8
def qd29 (a : List Arg) : qA29 := (dInt (aCell a 0 0), dInt (aCell a 0 1), decF g_II (aCell a 0 2), decF g_LIIE (aCell a 0 3), decF g_I (aCell a 1 0), decF g_I (aCell a 1 1), decF g_II (aCell a 2 0), dInt (aCell a 2 1), dInt (aCell a 2 2))
def qp29 {β : Type} (f : Int → Int → (List (Int × Int)) → (List ((List (Int × Int)))) → (List (Int)) → (List (Int)) → (List (Int × Int)) → Int → Int → β) (c0 c1 c2 c3 c4 c5 c6 c7 c8 : D) : β := f (dInt c0) (dInt c1) (decF g_II c2) (decF g_LIIE c3) (decF g_I c4) (decF g_I c5) (decF g_II c6) (dInt c7) (dInt c8)
def qt29 (c0 c1 c2 c3 c4 c5 c6 c7 c8 : D) : List Arg := [.agg [c0, c1, c2, c3], .agg [c4, c5], .agg [c6, c7, c8]]
attribute [go_sem] qw29 qp29 qt29 qE29
abbrev qA30 := Int × Int × Int × (List (Int × Int)) × (List ((List (Int × Int)))) × (List (Int × Int)) × (List ((List (Int × Int)))) × Int
def qw30 (a0 : Int) (a1 : Int) (a2 : Int) (a3 : List (Int × Int)) (a4 : List ((List (Int × Int)))) (a5 : List (Int × Int)) (a6 : List ((List (Int × Int)))) (a7 : Int) : List Arg := [.c (.int .i64 a0), .ptr [.int .i64 a1, .int .i64 a2, encF 2 d_II a3, encF 1 d_LIIE a4, encF 2 d_II a5, encF 1 d_LIIE a6], .ptr [.int .i64 a7]]
def qE30 : qA30 → List Arg := fun ⟨a0, a1, a2, a3, a4, a5, a6, a7⟩ => qw30 a0 a1 a2 a3 a4 a5 a6 a7
def qd30 (a : List Arg) : qA30 := (dInt (aCell a 0 0), dInt (aCell a 1 0), dInt (aCell a 1 1), decF g_II (aCell a 1 2), decF g_LIIE (aCell a 1 3), decF g_II (aCell a 1 4), decF g_LIIE (aCell a 1 5), dInt (aCell a 2 0))
def qp30 {β : Type} (f : Int → Int → Int → (List (Int × Int)) → (List ((List (Int × Int)))) → (List (Int × Int)) → (List ((List (Int × Int)))) → Int → β) (c0 c1 c2 c3 c4 c5 c6 c7 : D) : β := f (dInt c0) (dInt c1) (dInt c2) (decF g_II c3) (decF g_LIIE c4) (decF g_II c5) (decF g_LIIE c6) (dInt c7)
def qt30 (c0 c1 c2 c3 c4 c5 c6 c7 : D) : List Arg := [.c c0, .ptr [c1, c2, c3, c4, c5, c6], .ptr [c7]]
attribute [go_sem] qw30 qp30 qt30 qE30
abbrev qA31 := (List (Int)) × Int × Int × (List (Int × Int)) × (List ((List (Int × Int)))) × (List (Int × Int)) × (List ((List (Int × Int)))) × Int
def qw31 (a0 : List (Int)) (a1 : Int) (a2 : Int) (a3 : List (Int × Int)) (a4 : List ((List (Int × Int)))) (a5 : List (Int × Int)) (a6 : List ((List (Int × Int)))) (a7 : Int) : List Arg := [.c (encF 1 d_I a0), .clo 83 [[.int .i64 a1, .int .i64 a2, encF 2 d_II a3, encF 1 d_LIIE a4, encF 2 d_II a5, encF 1 d_LIIE a6], [.int .i64 a7]]]
def qE31 : qA31 → List Arg := fun ⟨a0, a1, a2, a3, a4, a5, a6, a7⟩ => qw31 a0 a1 a2 a3 a4 a5 a6 a7
def qd31 (a : List Arg) : qA31 := (decF g_I (aCell a 0 0), dInt (aCell a 1 0), dInt (aCell a 1 1), decF g_II (aCell a 1 2), decF g_LIIE (aCell a 1 3), decF g_II (aCell a 1 4), decF g_LIIE (aCell a 1 5), dInt (aCell a 1 6))
def qp31 {β : Type} (f : (List (Int)) → Int → Int → (List (Int × Int)) → (List ((List (Int × Int)))) → (List (Int × Int)) → (List ((List (Int × Int)))) → Int → β) (c0 c1 c2 c3 c4 c5 c6 c7 : D) : β := f (decF g_I c0) (dInt c1) (dInt c2) (decF g_II c3) (decF g_LIIE c4) (decF g_II c5) (decF g_LIIE c6) (dInt c7)
def qt31 (c0 c1 c2 c3 c4 c5 c6 c7 : D) : List Arg := [.c c0, .clo 83 [[c1, c2, c3, c4, c5, c6], [c7]]]
attribute [go_sem] qw31 qp31 qt31 qE31
abbrev qA32 := Int × Int × (List (Int × Int)) × (List ((List (Int × Int)))) × (List (Int × Int)) × (List ((List (Int × Int)))) × (List (Int)) × Int
def qw32 (a0 : Int) (a1 : Int) (a2 : List (Int × Int)) (a3 : List ((List (Int × Int)))) (a4 : List (Int × Int)) (a5 : List ((List (Int × Int)))) (a6 : List (Int)) (a7 : Int) : List Arg := [.agg [.int .i64 a0, .int .i64 a1, encF 2 d_II a2, encF 1 d_LIIE a3, encF 2 d_II a4, encF 1 d_LIIE a5], .c (encF 1 d_I a6), .c (.int .i64 a7)]
def qE32 : qA32 → List Arg := fun ⟨a0, a1, a2, a3, a4, a5, a6, a7⟩ => qw32 a0 a1 a2 a3 a4 a5 a6 a7
def qd32 (a : List Arg) : qA32 := (dInt (aCell a 0 0), dInt (aCell a 0 1), decF g_II (aCell a 0 2), decF g_LIIE (aCell a 0 3), decF g_II (aCell a 0 4), decF g_LIIE (aCell a 0 5), decF g_I (aCell a 1 0), dInt (aCell a 2 0))
def qp32 {β : Type} (f : Int → Int → (List (Int × Int)) → (List ((List (Int × Int)))) → (List (Int × Int)) → (List ((List (Int × Int)))) → (List (Int)) → Int → β) (c0 c1 c2 c3 c4 c5 c6 c7 : D) : β := f (dInt c0) (dInt c1) (decF g_II c2) (decF g_LIIE c3) (decF g_II c4) (decF g_LIIE c5) (decF g_I c6) (dInt c7)
def qt32 (c0 c1 c2 c3 c4 c5 c6 c7 : D) : List Arg := [.agg [c0, c1, c2, c3, c4, c5], .c c6, .c c7]
attribute [go_sem] qw32 qp32 qt32 qE32
def qu8 (v : (List (Int)) × Int × Int) : List RV := [.c (.own (encF 1 d_I v.1)), .c (.d (.int .i64 v.2.1)), .c (.d (.int .i64 v.2.2))]
attribute [go_sem] qu8
def qu9 (v : (List (Int)) × Int) : List RV := [.c (.own (encF 1 d_I v.1)), .c (.d (.int .i64 v.2))]
attribute [go_sem] qu9
def qu10 (v : (List (Int)) × Int × (List (Int)) × Int) : List RV := [.agg [.own (encF 1 d_I v.1), .d (.int .i64 v.2.1)], .agg [.own (encF 1 d_I v.2.2.1), .d (.int .i64 v.2.2.2)]]
attribute [go_sem] qu10
def qu11 (v : (List (Int)) × (List (Int)) × Int) : List RV := [.agg [.own (encF 1 d_I v.1), .own (encF 1 d_I v.2.1)], .c (.d (.int .i64 v.2.2))]
attribute [go_sem] qu11
/- (martensite/heat.part).stepped$1 -/
def r77 (a0 : Int) (x0 : Int) (x1 : Int) (x2 : List (Int × Int)) (x3 : List ((List (Int × Int)))) (x4 : List (Int × Int)) (x5 : List ((List (Int × Int)))) : Option (Bool) :=
  (r78 x0 x1 x2 x3 x4 x5 a0).bind fun v1 =>
   some (!v1)
def T77 : TSpec qA14 := mkT qE14 qd14 (fun ⟨a0, x0, x1, x2, x3, x4, x5⟩ => r77 a0 x0 x1 x2 x3 x4 x5) qu1 false
theorem TP77 (c0 c1 c2 c3 c4 c5 c6 : D) : T77.sp.pre [.c c0, .ptr [c1, c2, c3, c4, c5, c6]] = (eqvArgs (qt14 c0 c1 c2 c3 c4 c5 c6) (qp14 qw14 c0 c1 c2 c3 c4 c5 c6) ∧ (qp14 r77 c0 c1 c2 c3 c4 c5 c6).isSome = true) := (rfl)
theorem TR77 (c0 c1 c2 c3 c4 c5 c6 : D) : T77.sp.res [.c c0, .ptr [c1, c2, c3, c4, c5, c6]] = qu1 ((qp14 r77 c0 c1 c2 c3 c4 c5 c6).getD default) := (rfl)
theorem TA77 : T77.sp.alias = false := (rfl)
def tb77 : Fns := lk [(78, T78.sp)]
theorem tb77_ok : FnsOk Tryz.prog tb77 := .cons f78 (FnsOk.nil)
theorem tb77_78 : tb77 78 = some T78.sp := rfl
attribute [go_sem] TP77 TR77 TA77
section
attribute [local go_sem] T77 tb77_78 Tryz.results77
theorem v77 : Valid Tryz.prog 77 T77.sp := by
 refine valid_t (fn := Tryz.f77) (n := 8) ty_ok tb77_ok Tryz.func77 rfl Tryz.ntmps77 ?_
 rintro ⟨a0, x0, x1, x2, x3, x4, x5⟩ hx
 obtain ⟨r, hr⟩ := oE (show (r77 a0 x0 x1 x2 x3 x4 x5).isSome = true from hx)
 have hres : T77.res (a0, x0, x1, x2, x3, x4, x5) = qu1 r := by simp only [T77, mkT, hr, oG]
 refine ⟨nL rfl, fun stop S => ?_⟩
 rw [hres] at S
 unfold r77 at hr
 refine S.gx [] ?_
 obtain ⟨v1, hv1, hr⟩ := of_bind0 hr
 try simp only [hv1, oG, oI, true_and, and_assoc]
 repeat refine gA ?_
 cases hr
 exact lf
theorem f77 : FnFact Tryz.prog 77 T77.sp := ⟨⟨Tryz.f77, Tryz.func77, by decide, rfl⟩, v77⟩
end

/- slices.IndexFunc[[]int,int] -/
def b82b_1 (a0 : List (Int)) (x0 : Int) (x1 : Int) (x2 : List (Int × Int)) (x3 : List ((List (Int × Int)))) (x4 : List (Int × Int)) (x5 : List ((List (Int × Int)))) : (Int) → Ctl (Int) (Int) := fun s1 =>
  if (decide (s1 < (a0.length : Int))) = true then
   if 0 ≤ s1 ∧ s1 < (a0.length : Int) then
    bindC (r77 (a0.getD s1.toNat default) x0 x1 x2 x3 x4 x5) fun v1 =>
     if v1 = true then
      .out (some s1)
      else .next (IntKind.i64.wrap (s1 + 1))
    else .out none
   else .out (some (-1))
def r82b (a0 : List (Int)) (x0 : Int) (x1 : Int) (x2 : List (Int × Int)) (x3 : List ((List (Int × Int)))) (x4 : List (Int × Int)) (x5 : List ((List (Int × Int)))) : Option (Int) :=
  iterC (b82b_1 a0 x0 x1 x2 x3 x4 x5) 1000000000 0
def T82b : TSpec qA21 := mkT qE21 qd21 (fun ⟨a0, x0, x1, x2, x3, x4, x5⟩ => r82b a0 x0 x1 x2 x3 x4 x5) qu2 false
theorem TP82b (c0 c1 c2 c3 c4 c5 c6 : D) : T82b.sp.pre [.c c0, .clo 77 [[c1, c2, c3, c4, c5, c6]]] = (eqvArgs (qt21 c0 c1 c2 c3 c4 c5 c6) (qp21 qw21 c0 c1 c2 c3 c4 c5 c6) ∧ (qp21 r82b c0 c1 c2 c3 c4 c5 c6).isSome = true) := (rfl)
theorem TR82b (c0 c1 c2 c3 c4 c5 c6 : D) : T82b.sp.res [.c c0, .clo 77 [[c1, c2, c3, c4, c5, c6]]] = qu2 ((qp21 r82b c0 c1 c2 c3 c4 c5 c6).getD default) := (rfl)
theorem TA82b : T82b.sp.alias = false := (rfl)
def tb82b : Fns := lk [(77, T77.sp)]
theorem tb82b_ok : FnsOk Tryz.prog tb82b := .cons f77 (FnsOk.nil)
theorem tb82b_77 : tb82b 77 = some T77.sp := rfl
theorem lt82b_0 : (IntKind.i64.wrap (0 + 1)) = 1 := by first | rfl | decide | simp
attribute [go_sem] TP82b TR82b TA82b
section
attribute [local go_sem] T82b tb82b_77 Tryz.results82 lt82b_0
theorem v82b : Valid Tryz.prog 82 T82b.sp := by
  refine valid_t (fn := Tryz.f82) (n := 19) ty_ok tb82b_ok Tryz.func82 rfl Tryz.ntmps82 ?_
  rintro ⟨a0, x0, x1, x2, x3, x4, x5⟩ hx
  obtain ⟨r, hr⟩ := oE (show (r82b a0 x0 x1 x2 x3 x4 x5).isSome = true from hx)
  have hres : T82b.res (a0, x0, x1, x2, x3, x4, x5) = qu2 r := by simp only [T82b, mkT, hr, oG]
  refine ⟨nL rfl, fun stop S => ?_⟩
  rw [hres] at S
  unfold r82b at hr
  refine S.gx [] ?_
  repeat refine gA ?_
  refine S.sees [0, 1, 7, 8] [] [] ?_ (Stop.iter S (fun s1 => ⟨[(0, .c (.d (encF 1 d_I a0))), (1, .c (.clo 77 [.sptr [.int .i64 x0, .int .i64 x1, encF 2 d_II x2, encF 1 d_LIIE x3, encF 2 d_II x4, encF 1 d_LIIE x5] 0])), (7, .c (.d (.int .i64 (a0.length : Int)))), (8, .c (.d (.int .i64 s1)))], [], []⟩) (b82b_1 a0 x0 x1 x2 x3 x4 x5) (fun q => q = r) hr rfl ?_)
  · exact lf
  · intro s1 hr
    unfold b82b_1 at hr
    refine S.gx [] ?_
    repeat refine gA ?_
    refine ⟨fun hc => ?_, fun hc => ?_⟩
    · replace hr := ifP1 hr hc
      obtain ⟨hg2, hr⟩ := of_guard1 hr
      obtain ⟨v1, hv1, hr⟩ := of_bind1 hr
      try simp only [hv1, oG, oI, true_and, and_assoc]
      repeat refine gA ?_
      refine ⟨fun hc => ?_, fun hc => ?_⟩
      · replace hr := ifP1 hr hc
        repeat refine gA ?_
        have hr := of_out0 hr
        obtain rfl := Option.some.inj hr
        exact lf
      · replace hr := ifN1 hr hc
        repeat refine gA ?_
        refine S.sees [0, 1, 7, 8] [] [] ?_ hr
        exact lf
    · replace hr := ifN1 hr hc
      repeat refine gA ?_
      have hr := of_out0 hr
      repeat refine gA ?_
      obtain rfl := Option.some.inj hr
      exact lf
theorem f82b : FnFact Tryz.prog 82 T82b.sp := ⟨⟨Tryz.f82, Tryz.func82, by decide, rfl⟩, v82b⟩
end

/- slices.ContainsFunc[[]int,int] -/
def r70a (a0 : List (Int)) (x0 : Int) (x1 : Int) (x2 : List (Int × Int)) (x3 : List ((List (Int × Int)))) (x4 : List (Int × Int)) (x5 : List ((List (Int × Int)))) : Option (Bool) :=
  (r82b a0 x0 x1 x2 x3 x4 x5).bind fun v1 =>
   some (decide (v1 ≥ 0))
def T70a : TSpec qA21 := mkT qE21 qd21 (fun ⟨a0, x0, x1, x2, x3, x4, x5⟩ => r70a a0 x0 x1 x2 x3 x4 x5) qu1 false
theorem TP70a (c0 c1 c2 c3 c4 c5 c6 : D) : T70a.sp.pre [.c c0, .clo 77 [[c1, c2, c3, c4, c5, c6]]] = (eqvArgs (qt21 c0 c1 c2 c3 c4 c5 c6) (qp21 qw21 c0 c1 c2 c3 c4 c5 c6) ∧ (qp21 r70a c0 c1 c2 c3 c4 c5 c6).isSome = true) := (rfl)
theorem TR70a (c0 c1 c2 c3 c4 c5 c6 : D) : T70a.sp.res [.c c0, .clo 77 [[c1, c2, c3, c4, c5, c6]]] = qu1 ((qp21 r70a c0 c1 c2 c3 c4 c5 c6).getD default) := (rfl)
theorem TA70a : T70a.sp.alias = false := (rfl)
def tb70a : Fns := lk [(82, T82b.sp)]
theorem tb70a_ok : FnsOk Tryz.prog tb70a := .cons f82b (FnsOk.nil)
theorem tb70a_82 : tb70a 82 = some T82b.sp := rfl
attribute [go_sem] TP70a TR70a TA70a
section
attribute [local go_sem] T70a tb70a_82 Tryz.results70
theorem v70a : Valid Tryz.prog 70 T70a.sp := by
  refine valid_t (fn := Tryz.f70) (n := 9) ty_ok tb70a_ok Tryz.func70 rfl Tryz.ntmps70 ?_
  rintro ⟨a0, x0, x1, x2, x3, x4, x5⟩ hx
  obtain ⟨r, hr⟩ := oE (show (r70a a0 x0 x1 x2 x3 x4 x5).isSome = true from hx)
  have hres : T70a.res (a0, x0, x1, x2, x3, x4, x5) = qu1 r := by simp only [T70a, mkT, hr, oG]
  refine ⟨nL rfl, fun stop S => ?_⟩
  rw [hres] at S
  unfold r70a at hr
  refine S.gx [] ?_
  obtain ⟨v1, hv1, hr⟩ := of_bind0 hr
  try simp only [hv1, oG, oI, true_and, and_assoc]
  repeat refine gA ?_
  obtain rfl := Option.some.inj hr
  exact lf
theorem f70a : FnFact Tryz.prog 70 T70a.sp := ⟨⟨Tryz.f70, Tryz.func70, by decide, rfl⟩, v70a⟩
end

/- (martensite/heat.part).stepped -/
def b40_3 (x1 : Int) (x0 : Int) (x2 : List (Int × Int)) (x3 : List ((List (Int × Int)))) (x4 : List (Int × Int)) (x5 : List ((List (Int × Int)))) (x6 : List (Int)) (v20 : Int) : (Int × (List (Int))) → Ctl (Int × (List (Int))) ((List (Int)) × Int × Int) := fun s3 =>
  if (decide (s3.1 < (x6.length : Int))) = true then
   if 0 ≤ s3.1 ∧ s3.1 < (x6.length : Int) then
    if 0 ≤ s3.1 ∧ s3.1 < (s3.2.length : Int) then
     if 0 ≤ s3.1 ∧ s3.1 < (s3.2.length : Int) then
      .next (IntKind.i64.wrap (s3.1 + 1), s3.2.set s3.1.toNat (IntKind.i64.wrap ((s3.2.getD s3.1.toNat default) + (x6.getD s3.1.toNat default))))
      else .out none
     else .out none
    else .out none
   else .out ((r70a s3.2 x1 x0 x2 x3 x4 x5).bind fun v24 =>
    (r48 (!v24) 22).bind fun v25 =>
     some (s3.2, v20, v25))
def b40_2 (x1 : Int) (x0 : Int) (x2 : List (Int × Int)) (x3 : List ((List (Int × Int)))) (x4 : List (Int × Int)) (x5 : List ((List (Int × Int)))) (x6 : List (Int)) (x7 : Int) : (Int × (List (Int))) → Ctl (Int × (List (Int))) ((List (Int)) × Int × Int) := fun s2 =>
  if (decide ((IntKind.i64.wrap (s2.1 + 1)) < (s2.2.length : Int))) = true then
   if 0 ≤ s2.1 ∧ s2.1 < (s2.2.length : Int) then
    bindC (r101 x1 x0 x2 x3 x4 x5 (s2.2.getD s2.1.toNat default)) fun v11 =>
     if 0 ≤ IntKind.i64.wrap (s2.1 + 1) ∧ IntKind.i64.wrap (s2.1 + 1) < (s2.2.length : Int) then
      bindC (r101 x1 x0 x2 x3 x4 x5 (s2.2.getD (IntKind.i64.wrap (s2.1 + 1)).toNat default)) fun v12 =>
       bindC (r102 (IntKind.i64.wrap (x0 * (IntKind.i64.wrap ((IntKind.i64.wrap (v11.1 * v12.2)) - (IntKind.i64.wrap (v12.1 * v11.2)))))) (IntKind.i64.wrap ((IntKind.i64.wrap (1000 * v11.2)) * v12.2))) fun v13 =>
        if 0 ≤ s2.1 ∧ s2.1 < (s2.2.length : Int) then
         if 0 ≤ IntKind.i64.wrap (s2.1 + 1) ∧ IntKind.i64.wrap (s2.1 + 1) < (s2.2.length : Int) then
          if 0 ≤ s2.1 ∧ s2.1 < (s2.2.length : Int) then
           if 0 ≤ IntKind.i64.wrap (s2.1 + 1) ∧ IntKind.i64.wrap (s2.1 + 1) < (s2.2.length : Int) then
            .next (IntKind.i64.wrap (s2.1 + 2), (s2.2.set s2.1.toNat (IntKind.i64.wrap ((s2.2.getD s2.1.toNat default) - v13))).set (IntKind.i64.wrap (s2.1 + 1)).toNat (IntKind.i64.wrap ((s2.2.getD (IntKind.i64.wrap (s2.1 + 1)).toNat default) + v13)))
            else .out none
           else .out none
          else .out none
         else .out none
      else .out none
    else .out none
   else .out (if 0 ≤ 0 ∧ 0 < (s2.2.length : Int) then
    (r76 x1 x0 x2 x3 x4 x5 x7 (s2.2.getD 0 default)).bind fun v20 =>
     if 0 ≤ 0 ∧ 0 < (s2.2.length : Int) then
      if 0 ≤ 0 ∧ 0 < (s2.2.length : Int) then
       iterC (b40_3 x1 x0 x2 x3 x4 x5 x6 v20) 1000000000 (0, s2.2.set 0 (IntKind.i64.wrap ((s2.2.getD 0 default) - v20)))
       else none
      else none
    else none)
def b40_1 (x1 : Int) (x0 : Int) (x2 : List (Int × Int)) (x3 : List ((List (Int × Int)))) (x4 : List (Int × Int)) (x5 : List ((List (Int × Int)))) (x6 : List (Int)) (x7 : Int) : (Int × (List (Int))) → Ctl (Int × (List (Int))) ((List (Int)) × Int × Int) := fun s1 =>
  if (decide ((IntKind.i64.wrap (s1.1 + 1)) < (s1.2.length : Int))) = true then
   if 0 ≤ s1.1 ∧ s1.1 < (s1.2.length : Int) then
    bindC (r101 x1 x0 x2 x3 x4 x5 (s1.2.getD s1.1.toNat default)) fun v2 =>
     if 0 ≤ IntKind.i64.wrap (s1.1 + 1) ∧ IntKind.i64.wrap (s1.1 + 1) < (s1.2.length : Int) then
      bindC (r101 x1 x0 x2 x3 x4 x5 (s1.2.getD (IntKind.i64.wrap (s1.1 + 1)).toNat default)) fun v3 =>
       bindC (r102 (IntKind.i64.wrap (x0 * (IntKind.i64.wrap ((IntKind.i64.wrap (v2.1 * v3.2)) - (IntKind.i64.wrap (v3.1 * v2.2)))))) (IntKind.i64.wrap ((IntKind.i64.wrap (1000 * v2.2)) * v3.2))) fun v4 =>
        if 0 ≤ s1.1 ∧ s1.1 < (s1.2.length : Int) then
         if 0 ≤ IntKind.i64.wrap (s1.1 + 1) ∧ IntKind.i64.wrap (s1.1 + 1) < (s1.2.length : Int) then
          if 0 ≤ s1.1 ∧ s1.1 < (s1.2.length : Int) then
           if 0 ≤ IntKind.i64.wrap (s1.1 + 1) ∧ IntKind.i64.wrap (s1.1 + 1) < (s1.2.length : Int) then
            .next (IntKind.i64.wrap (s1.1 + 2), (s1.2.set s1.1.toNat (IntKind.i64.wrap ((s1.2.getD s1.1.toNat default) - v4))).set (IntKind.i64.wrap (s1.1 + 1)).toNat (IntKind.i64.wrap ((s1.2.getD (IntKind.i64.wrap (s1.1 + 1)).toNat default) + v4)))
            else .out none
           else .out none
          else .out none
         else .out none
      else .out none
    else .out none
   else .out (iterC (b40_2 x1 x0 x2 x3 x4 x5 x6 x7) 1000000000 (1, s1.2))
def r40 (x1 : Int) (x0 : Int) (x2 : List (Int × Int)) (x3 : List ((List (Int × Int)))) (x4 : List (Int × Int)) (x5 : List ((List (Int × Int)))) (a1 : List (Int)) (x6 : List (Int)) (x7 : Int) : Option ((List (Int)) × Int × Int) :=
  (r74 a1).bind fun v1 =>
   iterC (b40_1 x1 x0 x2 x3 x4 x5 x6 x7) 1000000000 (0, v1)
def T40 : TSpec qA22 := mkT qE22 qd22 (fun ⟨x1, x0, x2, x3, x4, x5, a1, x6, x7⟩ => r40 x1 x0 x2 x3 x4 x5 a1 x6 x7) qu8 false
theorem TP40 (c0 c1 c2 c3 c4 c5 c6 c7 c8 : D) : T40.sp.pre [.agg [c0, c1, c2, c3, c4, c5], .c c6, .agg [c7, c8]] = (eqvArgs (qt22 c0 c1 c2 c3 c4 c5 c6 c7 c8) (qp22 qw22 c0 c1 c2 c3 c4 c5 c6 c7 c8) ∧ (qp22 r40 c0 c1 c2 c3 c4 c5 c6 c7 c8).isSome = true) := (rfl)
theorem TR40 (c0 c1 c2 c3 c4 c5 c6 c7 c8 : D) : T40.sp.res [.agg [c0, c1, c2, c3, c4, c5], .c c6, .agg [c7, c8]] = qu8 ((qp22 r40 c0 c1 c2 c3 c4 c5 c6 c7 c8).getD default) := (rfl)
theorem TA40 : T40.sp.alias = false := (rfl)
def tb40 : Fns := lk [(48, T48.sp), (70, T70a.sp), (74, T74.sp), (76, T76.sp), (101, T101.sp), (102, T102.sp)]
theorem tb40_ok : FnsOk Tryz.prog tb40 := .cons f48 (.cons f70a (.cons f74 (.cons f76 (.cons f101 (.cons f102 (FnsOk.nil))))))
theorem tb40_48 : tb40 48 = some T48.sp := rfl
theorem tb40_70 : tb40 70 = some T70a.sp := rfl
theorem tb40_74 : tb40 74 = some T74.sp := rfl
theorem tb40_76 : tb40 76 = some T76.sp := rfl
theorem tb40_101 : tb40 101 = some T101.sp := rfl
theorem tb40_102 : tb40 102 = some T102.sp := rfl
theorem lt40_0 : (IntKind.i64.wrap (0 + 1)) = 1 := by first | rfl | decide | simp
theorem lt40_1 : (IntKind.i64.wrap (0 + 2)) = 2 := by first | rfl | decide | simp
theorem lt40_2 : (IntKind.i64.wrap (1 + 1)) = 2 := by first | rfl | decide | simp
theorem lt40_3 : (IntKind.i64.wrap (1 + 2)) = 3 := by first | rfl | decide | simp
attribute [go_sem] TP40 TR40 TA40
section
attribute [local go_sem] T40 tb40_48 tb40_70 tb40_74 tb40_76 tb40_101 tb40_102 Tryz.results40 Tryz.results75 lt40_0 lt40_1 lt40_2 lt40_3
theorem v40 : Valid Tryz.prog 40 T40.sp := by
 refine valid_t (fn := Tryz.f40) (n := 59) ty_ok tb40_ok Tryz.func40 rfl Tryz.ntmps40 ?_
 rintro ⟨x1, x0, x2, x3, x4, x5, a1, x6, x7⟩ hx
 obtain ⟨r, hr⟩ := oE (show (r40 x1 x0 x2 x3 x4 x5 a1 x6 x7).isSome = true from hx)
 have hres : T40.res (x1, x0, x2, x3, x4, x5, a1, x6, x7) = qu8 r := by simp only [T40, mkT, hr, oG]
 refine ⟨nL rfl, fun stop S => ?_⟩
 rw [hres] at S
 unfold r40 at hr
 refine S.gx [2, 3] ?_
 obtain ⟨v1, hv1, hr⟩ := of_bind0 hr
 try simp only [hv1, oG, oI, true_and, and_assoc]
 repeat refine gA ?_
 refine S.inl 2 [3, 5, 9] [] Tryz.func75 (by decide) rfl Tryz.ntmps75 (fun cx e => drawn_ok ty_ok tb40_ok cx e) (some 18) rfl rfl rfl rfl (nL rfl) (nL rfl) ?_
 refine gs ?_
 repeat refine gA ?_
 intro stop1 S1
 refine S1.gx [6] ?_
 repeat refine gA ?_
 refine S1.sees [1, 3, 6] [(100003, 100003), (3, 3), (5, 5)] [(15, 15)] ?_ (Stop.iter S1 (fun s1 => ⟨[(1, .c (.own 15)), (3, .c (.ref 100003 0)), (6, .c (.d (.int .i64 s1.1)))], [(100003, [.d (.int .i64 x1), .d (.int .i64 x0), .d (encF 2 d_II x2), .d (encF 1 d_LIIE x3), .d (encF 2 d_II x4), .d (encF 1 d_LIIE x5)]), (3, [.d (.int .i64 x1), .d (.int .i64 x0), .d (encF 2 d_II x2), .d (encF 1 d_LIIE x3), .d (encF 2 d_II x4), .d (encF 1 d_LIIE x5)]), (5, [.d (encF 1 d_I x6), .d (.int .i64 x7)])], [(15, .owned (encF 1 d_I s1.2))]⟩) (b40_1 x1 x0 x2 x3 x4 x5 x6 x7) (fun q => q = r) hr rfl ?_)
 ·exact lf
 ·intro s1 hr
  unfold b40_1 at hr
  refine S1.gx [6] ?_
  repeat refine gA ?_
  refine ⟨?_, ?_⟩ <;> intro hc
  ·have hr := ifP1 hr hc
   obtain ⟨hg9, hr⟩ := of_guard1 hr
   obtain ⟨v2, hv2, hr⟩ := of_bind1 hr
   obtain ⟨hg10, hr⟩ := of_guard1 hr
   obtain ⟨v3, hv3, hr⟩ := of_bind1 hr
   obtain ⟨v4, hv4, hr⟩ := of_bind1 hr
   try simp only [hv2, hv3, hv4, Option.getD_some, Option.isSome_some, true_and, and_assoc]
   repeat refine gA ?_
   refine S1.prune [1, 3, 6, 9] ?_
   refine S1.gx [] ?_
   obtain ⟨hg5, hr⟩ := of_guard1 hr
   obtain ⟨hg6, hr⟩ := of_guard1 hr
   obtain ⟨hg7, hr⟩ := of_guard1 hr
   obtain ⟨hg8, hr⟩ := of_guard1 hr
   repeat refine gA ?_
   refine S1.sees [1, 3, 6] [(100003, 100003), (3, 3), (5, 5)] [(15, 15)] ?_ hr
   exact lf
  ·have hr := ifN1 hr hc
   repeat refine gA ?_
   have hr := of_out0 hr
   repeat refine gA ?_
   refine S.gx [2, 3] ?_
   repeat refine gA ?_
   refine S.inl 2 [3, 5, 9] [] Tryz.func75 (by decide) rfl Tryz.ntmps75 (fun cx e => drawn_ok ty_ok tb40_ok cx e) (some 21) rfl rfl rfl rfl (nL rfl) (nL rfl) ?_
   refine gs ?_
   repeat refine gA ?_
   intro stop1 S1
   refine S1.gx [6] ?_
   repeat refine gA ?_
   refine S1.sees [1, 3, 6] [(200003, 200003), (3, 3), (5, 5)] [(15, 15)] ?_ (Stop.iter S1 (fun s2 => ⟨[(1, .c (.own 15)), (3, .c (.ref 200003 0)), (6, .c (.d (.int .i64 s2.1)))], [(200003, [.d (.int .i64 x1), .d (.int .i64 x0), .d (encF 2 d_II x2), .d (encF 1 d_LIIE x3), .d (encF 2 d_II x4), .d (encF 1 d_LIIE x5)]), (3, [.d (.int .i64 x1), .d (.int .i64 x0), .d (encF 2 d_II x2), .d (encF 1 d_LIIE x3), .d (encF 2 d_II x4), .d (encF 1 d_LIIE x5)]), (5, [.d (encF 1 d_I x6), .d (.int .i64 x7)])], [(15, .owned (encF 1 d_I s2.2))]⟩) (b40_2 x1 x0 x2 x3 x4 x5 x6 x7) (fun q => q = r) hr rfl ?_)
   ·exact lf
   ·intro s2 hr
    unfold b40_2 at hr
    refine S1.gx [6] ?_
    repeat refine gA ?_
    refine ⟨?_, ?_⟩ <;> intro hc
    ·have hr := ifP1 hr hc
     obtain ⟨hg18, hr⟩ := of_guard1 hr
     obtain ⟨v11, hv11, hr⟩ := of_bind1 hr
     obtain ⟨hg19, hr⟩ := of_guard1 hr
     obtain ⟨v12, hv12, hr⟩ := of_bind1 hr
     obtain ⟨v13, hv13, hr⟩ := of_bind1 hr
     try simp only [hv11, hv12, hv13, Option.getD_some, Option.isSome_some, true_and, and_assoc]
     repeat refine gA ?_
     refine S1.prune [1, 3, 6, 9] ?_
     refine S1.gx [] ?_
     obtain ⟨hg14, hr⟩ := of_guard1 hr
     obtain ⟨hg15, hr⟩ := of_guard1 hr
     obtain ⟨hg16, hr⟩ := of_guard1 hr
     obtain ⟨hg17, hr⟩ := of_guard1 hr
     repeat refine gA ?_
     refine S1.sees [1, 3, 6] [(200003, 200003), (3, 3), (5, 5)] [(15, 15)] ?_ hr
     exact lf
    ·have hr := ifN1 hr hc
     repeat refine gA ?_
     have hr := of_out0 hr
     repeat refine gA ?_
     refine S.gx [2, 3] ?_
     obtain ⟨hg26, hr⟩ := of_guard0 hr
     obtain ⟨v20, hv20, hr⟩ := of_bind0 hr
     obtain ⟨hg27, hr⟩ := of_guard0 hr
     obtain ⟨hg28, hr⟩ := of_guard0 hr
     try simp only [hv20, oG, oI, true_and, and_assoc]
     repeat refine gA ?_
     refine S.sees [3, 9, 10, 36, 37, 38] [(3, 3)] [(15, 15)] ?_ (Stop.iter S (fun s3 => ⟨[(3, .c (.ref 3 0)), (9, .c (.own 15)), (10, .c (.d (.int .i64 v20))), (36, .c (.d (encF 1 d_I x6))), (37, .c (.d (.int .i64 (x6.length : Int)))), (38, .c (.d (.int .i64 s3.1)))], [(3, [.d (.int .i64 x1), .d (.int .i64 x0), .d (encF 2 d_II x2), .d (encF 1 d_LIIE x3), .d (encF 2 d_II x4), .d (encF 1 d_LIIE x5)])], [(15, .owned (encF 1 d_I s3.2))]⟩) (b40_3 x1 x0 x2 x3 x4 x5 x6 v20) (fun q => q = r) hr rfl ?_)
     ·exact lf
     ·intro s3 hr
      unfold b40_3 at hr
      refine S.gx [2, 3] ?_
      repeat refine gA ?_
      refine ⟨?_, ?_⟩ <;> intro hc
      ·have hr := ifP1 hr hc
       obtain ⟨hg21, hr⟩ := of_guard1 hr
       obtain ⟨hg22, hr⟩ := of_guard1 hr
       obtain ⟨hg23, hr⟩ := of_guard1 hr
       repeat refine gA ?_
       refine S.sees [3, 9, 10, 36, 37, 38] [(3, 3)] [(15, 15)] ?_ hr
       exact lf
      ·have hr := ifN1 hr hc
       repeat refine gA ?_
       have hr := of_out0 hr
       obtain ⟨v24, hv24, hr⟩ := of_bind0 hr
       obtain ⟨v25, hv25, hr⟩ := of_bind0 hr
       try simp only [hv24, hv25, Option.getD_some, Option.isSome_some, true_and, and_assoc]
       repeat refine gA ?_
       cases hr
       exact lf
theorem f40 : FnFact Tryz.prog 40 T40.sp := ⟨⟨Tryz.f40, Tryz.func40, by decide, rfl⟩, v40⟩
end

/- martensite/heat.Stepped -/
def r13 (x2 : Int) (x3 : Int) (x4 : List (Int × Int)) (x5 : List ((List (Int × Int)))) (a1 : List (Int)) (x0 : List (Int)) (x1 : Int) : Option ((List (Int)) × Int) :=
  (r38 x2 x3 x4 x5 a1).bind fun v1 =>
   if (v1.2.2.2.2.2.2 == 0) = true then
    (r39 v1.1 v1.2.1 v1.2.2.1 v1.2.2.2.1 v1.2.2.2.2.1 v1.2.2.2.2.2.1 x0 x1).bind fun v2 =>
     if (v2 != 0) = true then
      some ([], v2)
      else (r40 v1.1 v1.2.1 v1.2.2.1 v1.2.2.2.1 v1.2.2.2.2.1 v1.2.2.2.2.2.1 a1 x0 x1).bind fun v3 =>
       if (v3.2.2 != 0) = true then
        some ([], v3.2.2)
        else some (v3.1, 0)
    else if (v1.2.2.2.2.2.2 != 0) = true then
     some ([], v1.2.2.2.2.2.2)
     else (r40 v1.1 v1.2.1 v1.2.2.1 v1.2.2.2.1 v1.2.2.2.2.1 v1.2.2.2.2.2.1 a1 x0 x1).bind fun v4 =>
      if (v4.2.2 != 0) = true then
       some ([], v4.2.2)
       else some (v4.1, 0)
def T13 : TSpec qA23 := mkT qE23 qd23 (fun ⟨x2, x3, x4, x5, a1, x0, x1⟩ => r13 x2 x3 x4 x5 a1 x0 x1) qu9 false
theorem TP13 (c0 c1 c2 c3 c4 c5 c6 : D) : T13.sp.pre [.agg [c0, c1, c2, c3], .c c4, .agg [c5, c6]] = (eqvArgs (qt23 c0 c1 c2 c3 c4 c5 c6) (qp23 qw23 c0 c1 c2 c3 c4 c5 c6) ∧ (qp23 r13 c0 c1 c2 c3 c4 c5 c6).isSome = true) := (rfl)
theorem TR13 (c0 c1 c2 c3 c4 c5 c6 : D) : T13.sp.res [.agg [c0, c1, c2, c3], .c c4, .agg [c5, c6]] = qu9 ((qp23 r13 c0 c1 c2 c3 c4 c5 c6).getD default) := (rfl)
theorem TA13 : T13.sp.alias = false := (rfl)
def tb13 : Fns := lk [(38, T38.sp), (39, T39.sp), (40, T40.sp)]
theorem tb13_ok : FnsOk Tryz.prog tb13 := .cons f38 (.cons f39 (.cons f40 (FnsOk.nil)))
theorem tb13_38 : tb13 38 = some T38.sp := rfl
theorem tb13_39 : tb13 39 = some T39.sp := rfl
theorem tb13_40 : tb13 40 = some T40.sp := rfl
attribute [go_sem] TP13 TR13 TA13
section
attribute [local go_sem] T13 tb13_38 tb13_39 tb13_40 Tryz.results13
theorem v13 : Valid Tryz.prog 13 T13.sp := by
 refine valid_t (fn := Tryz.f13) (n := 38) ty_ok tb13_ok Tryz.func13 rfl Tryz.ntmps13 ?_
 rintro ⟨x2, x3, x4, x5, a1, x0, x1⟩ hx
 obtain ⟨r, hr⟩ := oE (show (r13 x2 x3 x4 x5 a1 x0 x1).isSome = true from hx)
 have hres : T13.res (x2, x3, x4, x5, a1, x0, x1) = qu9 r := by simp only [T13, mkT, hr, oG]
 refine ⟨nL rfl, fun stop S => ?_⟩
 rw [hres] at S
 unfold r13 at hr
 refine S.gx [7] ?_
 obtain ⟨v1, hv1, hr⟩ := of_bind0 hr
 try simp only [hv1, oG, oI, true_and, and_assoc]
 repeat refine gA ?_
 refine ⟨?_, ?_⟩ <;> intro hc
 ·have hr := ifP hr hc
  obtain ⟨v2, hv2, hr⟩ := of_bind0 hr
  try simp only [hv2, oG, oI, true_and, and_assoc]
  repeat refine gA ?_
  refine ⟨?_, ?_⟩ <;> intro hc
  ·have hr := ifP hr hc
   repeat refine gA ?_
   cases hr
   exact lf
  ·have hr := ifN hr hc
   obtain ⟨v3, hv3, hr⟩ := of_bind0 hr
   try simp only [hv3, oG, oI, true_and, and_assoc]
   repeat refine gA ?_
   refine S.prune [9, 10] ?_
   refine S.gx [] ?_
   repeat refine gA ?_
   refine ⟨?_, ?_⟩ <;> intro hc
   ·have hr := ifP hr hc
    repeat refine gA ?_
    cases hr
    exact lf
   ·have hr := ifN hr hc
    repeat refine gA ?_
    cases hr
    exact lf
 ·have hr := ifN hr hc
  repeat refine gA ?_
  refine ⟨?_, ?_⟩ <;> intro hc
  ·have hr := ifP hr hc
   repeat refine gA ?_
   cases hr
   exact lf
  ·have hr := ifN hr hc
   obtain ⟨v4, hv4, hr⟩ := of_bind0 hr
   try simp only [hv4, oG, oI, true_and, and_assoc]
   repeat refine gA ?_
   refine S.prune [9, 10] ?_
   refine S.gx [] ?_
   repeat refine gA ?_
   refine ⟨?_, ?_⟩ <;> intro hc
   ·have hr := ifP hr hc
    repeat refine gA ?_
    cases hr
    exact lf
   ·have hr := ifN hr hc
    repeat refine gA ?_
    cases hr
    exact lf
theorem f13 : FnFact Tryz.prog 13 T13.sp := ⟨⟨Tryz.f13, Tryz.func13, by decide, rfl⟩, v13⟩
end

/- (martensite/heat.part).boxErr -/
def b79_1 (x0 : List (Int)) (x1 : List (Int)) : (Int) → Ctl (Int) (Int × Int) := fun s1 =>
  if (decide (s1 < (x0.length : Int))) = true then
   if 0 ≤ s1 ∧ s1 < (x0.length : Int) then
    if 0 ≤ s1 ∧ s1 < (x1.length : Int) then
     if (decide ((x0.getD s1.toNat default) > (x1.getD s1.toNat default))) = true then
      .out (some (s1, 9))
      else .next (IntKind.i64.wrap (s1 + 1))
     else .out none
    else .out none
   else .out (some (0, 0))
def r79 (x2 : Int) (x3 : Int) (x4 : List (Int × Int)) (x5 : List ((List (Int × Int)))) (x6 : List (Int × Int)) (x7 : List ((List (Int × Int)))) (x0 : List (Int)) (x1 : List (Int)) : Option (Int × Int) :=
  (r69 x2 x3 x4 x5 x6 x7 x0).bind fun v1 =>
   if (v1.2 != 0) = true then
    some (v1.1, v1.2)
    else (r69 x2 x3 x4 x5 x6 x7 x1).bind fun v2 =>
     if (v2.2 != 0) = true then
      some (v2.1, v2.2)
      else iterC (b79_1 x0 x1) 1000000000 0
def T79 : TSpec qA24 := mkT qE24 qd24 (fun ⟨x2, x3, x4, x5, x6, x7, x0, x1⟩ => r79 x2 x3 x4 x5 x6 x7 x0 x1) qu3 false
theorem TP79 (c0 c1 c2 c3 c4 c5 c6 c7 : D) : T79.sp.pre [.agg [c0, c1, c2, c3, c4, c5], .agg [c6, c7]] = (eqvArgs (qt24 c0 c1 c2 c3 c4 c5 c6 c7) (qp24 qw24 c0 c1 c2 c3 c4 c5 c6 c7) ∧ (qp24 r79 c0 c1 c2 c3 c4 c5 c6 c7).isSome = true) := (rfl)
theorem TR79 (c0 c1 c2 c3 c4 c5 c6 c7 : D) : T79.sp.res [.agg [c0, c1, c2, c3, c4, c5], .agg [c6, c7]] = qu3 ((qp24 r79 c0 c1 c2 c3 c4 c5 c6 c7).getD default) := (rfl)
theorem TA79 : T79.sp.alias = false := (rfl)
def tb79 : Fns := lk [(69, T69.sp)]
theorem tb79_ok : FnsOk Tryz.prog tb79 := .cons f69 (FnsOk.nil)
theorem tb79_69 : tb79 69 = some T69.sp := rfl
theorem lt79_0 : (IntKind.i64.wrap (0 + 1)) = 1 := by first | rfl | decide | simp
attribute [go_sem] TP79 TR79 TA79
section
attribute [local go_sem] T79 tb79_69 Tryz.results79 lt79_0
theorem v79 : Valid Tryz.prog 79 T79.sp := by
 refine valid_t (fn := Tryz.f79) (n := 51) ty_ok tb79_ok Tryz.func79 rfl Tryz.ntmps79 ?_
 rintro ⟨x2, x3, x4, x5, x6, x7, x0, x1⟩ hx
 obtain ⟨r, hr⟩ := oE (show (r79 x2 x3 x4 x5 x6 x7 x0 x1).isSome = true from hx)
 have hres : T79.res (x2, x3, x4, x5, x6, x7, x0, x1) = qu3 r := by simp only [T79, mkT, hr, oG]
 refine ⟨nL rfl, fun stop S => ?_⟩
 rw [hres] at S
 unfold r79 at hr
 refine S.gx [] ?_
 obtain ⟨v1, hv1, hr⟩ := of_bind0 hr
 try simp only [hv1, oG, oI, true_and, and_assoc]
 repeat refine gA ?_
 refine ⟨?_, ?_⟩ <;> intro hc
 ·have hr := ifP hr hc
  repeat refine gA ?_
  cases hr
  exact lf
 ·have hr := ifN hr hc
  obtain ⟨v2, hv2, hr⟩ := of_bind0 hr
  try simp only [hv2, oG, oI, true_and, and_assoc]
  repeat refine gA ?_
  refine ⟨?_, ?_⟩ <;> intro hc
  ·have hr := ifP hr hc
   repeat refine gA ?_
   cases hr
   exact lf
  ·have hr := ifN hr hc
   repeat refine gA ?_
   refine S.sees [3, 35, 36, 37] [(3, 3)] [] ?_ (Stop.iter S (fun s1 => ⟨[(3, .c (.ref 3 0)), (35, .c (.d (encF 1 d_I x0))), (36, .c (.d (.int .i64 (x0.length : Int)))), (37, .c (.d (.int .i64 s1)))], [(3, [.d (encF 1 d_I x0), .d (encF 1 d_I x1)])], []⟩) (b79_1 x0 x1) (fun q => q = r) hr rfl ?_)
   ·exact lf
   ·intro s1 hr
    unfold b79_1 at hr
    refine S.gx [] ?_
    repeat refine gA ?_
    refine ⟨?_, ?_⟩ <;> intro hc
    ·have hr := ifP1 hr hc
     obtain ⟨hg3, hr⟩ := of_guard1 hr
     obtain ⟨hg4, hr⟩ := of_guard1 hr
     repeat refine gA ?_
     refine ⟨?_, ?_⟩ <;> intro hc
     ·have hr := ifP1 hr hc
      repeat refine gA ?_
      have hr := of_out0 hr
      cases hr
      exact lf
     ·have hr := ifN1 hr hc
      repeat refine gA ?_
      refine S.sees [3, 35, 36, 37] [(3, 3)] [] ?_ hr
      exact lf
    ·have hr := ifN1 hr hc
     repeat refine gA ?_
     have hr := of_out0 hr
     repeat refine gA ?_
     cases hr
     exact lf
theorem f79 : FnFact Tryz.prog 79 T79.sp := ⟨⟨Tryz.f79, Tryz.func79, by decide, rfl⟩, v79⟩
end

/- martensite/heat.openBox -/
def r41 (x0 : Int) (x1 : Int) (x2 : List (Int × Int)) (x3 : List ((List (Int × Int)))) (x4 : List (Int)) (x5 : List (Int)) : Option (Int × Int × (List (Int × Int)) × (List ((List (Int × Int)))) × (List (Int × Int)) × (List ((List (Int × Int)))) × Int) :=
  (r68 x0 x1 x2 x3).bind fun v1 =>
   if (v1.2.2.2.2.2.2 == 0) = true then
    (r79 v1.1 v1.2.1 v1.2.2.1 v1.2.2.2.1 v1.2.2.2.2.1 v1.2.2.2.2.2.1 x4 x5).bind fun v2 =>
     some (v1.1, v1.2.1, v1.2.2.1, v1.2.2.2.1, v1.2.2.2.2.1, v1.2.2.2.2.2.1, v2.2)
    else some (v1.1, v1.2.1, v1.2.2.1, v1.2.2.2.1, v1.2.2.2.2.1, v1.2.2.2.2.2.1, v1.2.2.2.2.2.2)
def T41 : TSpec qA25 := mkT qE25 qd25 (fun ⟨x0, x1, x2, x3, x4, x5⟩ => r41 x0 x1 x2 x3 x4 x5) qu7 true
theorem TP41 (c0 c1 c2 c3 c4 c5 : D) : T41.sp.pre [.agg [c0, c1, c2, c3], .agg [c4, c5]] = (eqvArgs (qt25 c0 c1 c2 c3 c4 c5) (qp25 qw25 c0 c1 c2 c3 c4 c5) ∧ (qp25 r41 c0 c1 c2 c3 c4 c5).isSome = true) := (rfl)
theorem TR41 (c0 c1 c2 c3 c4 c5 : D) : T41.sp.res [.agg [c0, c1, c2, c3], .agg [c4, c5]] = qu7 ((qp25 r41 c0 c1 c2 c3 c4 c5).getD default) := (rfl)
theorem TA41 : T41.sp.alias = true := (rfl)
def tb41 : Fns := lk [(68, T68.sp), (79, T79.sp)]
theorem tb41_ok : FnsOk Tryz.prog tb41 := .cons f68 (.cons f79 (FnsOk.nil))
theorem tb41_68 : tb41 68 = some T68.sp := rfl
theorem tb41_79 : tb41 79 = some T79.sp := rfl
attribute [go_sem] TP41 TR41 TA41
section
attribute [local go_sem] T41 tb41_68 tb41_79 Tryz.results41
theorem v41 : Valid Tryz.prog 41 T41.sp := by
 refine valid_t (fn := Tryz.f41) (n := 23) ty_ok tb41_ok Tryz.func41 rfl Tryz.ntmps41 ?_
 rintro ⟨x0, x1, x2, x3, x4, x5⟩ hx
 obtain ⟨r, hr⟩ := oE (show (r41 x0 x1 x2 x3 x4 x5).isSome = true from hx)
 have hres : T41.res (x0, x1, x2, x3, x4, x5) = qu7 r := by simp only [T41, mkT, hr, oG]
 refine ⟨nL rfl, fun stop S => ?_⟩
 rw [hres] at S
 unfold r41 at hr
 refine S.gx [] ?_
 obtain ⟨v1, hv1, hr⟩ := of_bind0 hr
 try simp only [hv1, oG, oI, true_and, and_assoc]
 repeat refine gA ?_
 refine ⟨?_, ?_⟩ <;> intro hc
 ·have hr := ifP hr hc
  obtain ⟨v2, hv2, hr⟩ := of_bind0 hr
  try simp only [hv2, oG, oI, true_and, and_assoc]
  repeat refine gA ?_
  cases hr
  exact lf
 ·have hr := ifN hr hc
  repeat refine gA ?_
  cases hr
  exact lf
theorem f41 : FnFact Tryz.prog 41 T41.sp := ⟨⟨Tryz.f41, Tryz.func41, by decide, rfl⟩, v41⟩
end

/- (martensite/heat.part).spanErr -/
def b42_1 (x1 : Int) (x2 : Int) (x3 : List (Int × Int)) (x4 : List ((List (Int × Int)))) (x5 : List (Int × Int)) (x6 : List ((List (Int × Int)))) (x0 : List (Int × Int)) (x7 : Int) (x8 : Int) : (Int × Int) → Ctl (Int × Int) (Int) := fun s1 =>
  if (decide (s1.2 < (x0.length : Int))) = true then
   if 0 ≤ s1.2 ∧ s1.2 < (x0.length : Int) then
    bindC (r72 ((x0.getD s1.2.toNat default).1)) fun v2 =>
     if v2 = true → (r72 ((x0.getD s1.2.toNat default).2)).isSome = true then
      bindC (r48 (v2 && ((r72 ((x0.getD s1.2.toNat default).2)).getD default)) 2) fun v3 =>
       bindC (r48 (decide (((x0.getD s1.2.toNat default).1) ≤ ((x0.getD s1.2.toNat default).2))) 9) fun v4 =>
        bindC (r44 [s1.1, v3, v4]) fun v5 =>
         .next (v5, IntKind.i64.wrap (s1.2 + 1))
      else .out none
    else .out none
   else .out ((r73 x1 x2 x3 x4 x5 x6 x7).bind fun v8 =>
    (r73 x1 x2 x3 x4 x5 x6 x8).bind fun v9 =>
     (r48 (decide (x7 ≤ x8)) 9).bind fun v10 =>
      (r44 [s1.1, v8, v9, v10]).bind fun v11 =>
       some v11)
def r42 (x1 : Int) (x2 : Int) (x3 : List (Int × Int)) (x4 : List ((List (Int × Int)))) (x5 : List (Int × Int)) (x6 : List ((List (Int × Int)))) (x0 : List (Int × Int)) (x7 : Int) (x8 : Int) : Option (Int) :=
  (r48 ((x0.length : Int) == x1) 10).bind fun v1 =>
   iterC (b42_1 x1 x2 x3 x4 x5 x6 x0 x7 x8) 1000000000 (v1, 0)
def T42 : TSpec qA26 := mkT qE26 qd26 (fun ⟨x1, x2, x3, x4, x5, x6, x0, x7, x8⟩ => r42 x1 x2 x3 x4 x5 x6 x0 x7 x8) qu2 false
theorem TP42 (c0 c1 c2 c3 c4 c5 c6 c7 c8 : D) : T42.sp.pre [.agg [c0, c1, c2, c3, c4, c5], .agg [c6, c7, c8]] = (eqvArgs (qt26 c0 c1 c2 c3 c4 c5 c6 c7 c8) (qp26 qw26 c0 c1 c2 c3 c4 c5 c6 c7 c8) ∧ (qp26 r42 c0 c1 c2 c3 c4 c5 c6 c7 c8).isSome = true) := (rfl)
theorem TR42 (c0 c1 c2 c3 c4 c5 c6 c7 c8 : D) : T42.sp.res [.agg [c0, c1, c2, c3, c4, c5], .agg [c6, c7, c8]] = qu2 ((qp26 r42 c0 c1 c2 c3 c4 c5 c6 c7 c8).getD default) := (rfl)
theorem TA42 : T42.sp.alias = false := (rfl)
def tb42 : Fns := lk [(44, T44.sp), (48, T48.sp), (72, T72.sp), (73, T73.sp)]
theorem tb42_ok : FnsOk Tryz.prog tb42 := .cons f44 (.cons f48 (.cons f72 (.cons f73 (FnsOk.nil))))
theorem tb42_44 : tb42 44 = some T44.sp := rfl
theorem tb42_48 : tb42 48 = some T48.sp := rfl
theorem tb42_72 : tb42 72 = some T72.sp := rfl
theorem tb42_73 : tb42 73 = some T73.sp := rfl
theorem lt42_0 : (IntKind.i64.wrap (0 + 1)) = 1 := by first | rfl | decide | simp
attribute [go_sem] TP42 TR42 TA42
section
attribute [local go_sem] T42 tb42_44 tb42_48 tb42_72 tb42_73 Tryz.results42 lt42_0
theorem v42 : Valid Tryz.prog 42 T42.sp := by
 refine valid_t (fn := Tryz.f42) (n := 63) ty_ok tb42_ok Tryz.func42 rfl Tryz.ntmps42 ?_
 rintro ⟨x1, x2, x3, x4, x5, x6, x0, x7, x8⟩ hx
 obtain ⟨r, hr⟩ := oE (show (r42 x1 x2 x3 x4 x5 x6 x0 x7 x8).isSome = true from hx)
 have hres : T42.res (x1, x2, x3, x4, x5, x6, x0, x7, x8) = qu2 r := by simp only [T42, mkT, hr, oG]
 refine ⟨nL rfl, fun stop S => ?_⟩
 rw [hres] at S
 unfold r42 at hr
 refine S.gx [] ?_
 obtain ⟨v1, hv1, hr⟩ := of_bind0 hr
 try simp only [hv1, oG, oI, true_and, and_assoc]
 repeat refine gA ?_
 refine S.sees [2, 3, 5, 17, 18, 19] [(2, 2), (3, 3)] [] ?_ (Stop.iter S (fun s1 => ⟨[(2, .c (.ref 2 0)), (3, .c (.ref 3 0)), (5, .c (.d (.int .i64 s1.1))), (17, .c (.d (encF 2 d_II x0))), (18, .c (.d (.int .i64 (x0.length : Int)))), (19, .c (.d (.int .i64 s1.2)))], [(2, [.d (.int .i64 x1), .d (.int .i64 x2), .d (encF 2 d_II x3), .d (encF 1 d_LIIE x4), .d (encF 2 d_II x5), .d (encF 1 d_LIIE x6)]), (3, [.d (encF 2 d_II x0), .d (.int .i64 x7), .d (.int .i64 x8)])], []⟩) (b42_1 x1 x2 x3 x4 x5 x6 x0 x7 x8) (fun q => q = r) hr rfl ?_)
 ·exact lf
 ·intro s1 hr
  unfold b42_1 at hr
  refine S.gx [] ?_
  repeat refine gA ?_
  refine ⟨?_, ?_⟩ <;> intro hc
  ·have hr := ifP1 hr hc
   obtain ⟨hg6, hr⟩ := of_guard1 hr
   obtain ⟨v2, hv2, hr⟩ := of_bind1 hr
   obtain ⟨hg7, hr⟩ := of_guard1 hr
   obtain ⟨v3, hv3, hr⟩ := of_bind1 hr
   obtain ⟨v4, hv4, hr⟩ := of_bind1 hr
   obtain ⟨v5, hv5, hr⟩ := of_bind1 hr
   try simp only [hv2, hv3, hv4, hv5, Option.getD_some, Option.isSome_some, true_and, and_assoc]
   repeat (first | refine gG hg7 ?_ | refine gA ?_ | refine gB ?_)
   refine S.sees [2, 3, 5, 17, 18, 19] [(2, 2), (3, 3)] [] ?_ hr
   exact lf
  ·have hr := ifN1 hr hc
   repeat refine gA ?_
   have hr := of_out0 hr
   obtain ⟨v8, hv8, hr⟩ := of_bind0 hr
   obtain ⟨v9, hv9, hr⟩ := of_bind0 hr
   obtain ⟨v10, hv10, hr⟩ := of_bind0 hr
   obtain ⟨v11, hv11, hr⟩ := of_bind0 hr
   try simp only [hv8, hv9, hv10, hv11, Option.getD_some, Option.isSome_some, true_and, and_assoc]
   repeat refine gA ?_
   cases hr
   exact lf
theorem f42 : FnFact Tryz.prog 42 T42.sp := ⟨⟨Tryz.f42, Tryz.func42, by decide, rfl⟩, v42⟩
end

/- martensite/heat.drives -/
def b80_1 (x0 : List (Int × Int)) (x1 : Int) (x2 : Int) : (Int × (List (Int)) × (List (Int))) → Ctl (Int × (List (Int)) × (List (Int))) ((List (Int)) × Int × (List (Int)) × Int) := fun s1 =>
  if (decide (s1.1 < (x0.length : Int))) = true then
   if 0 ≤ s1.1 ∧ s1.1 < (x0.length : Int) then
    if (s1.2.1.length + 1) * 8 ≤ 140737488355328 ∧ s1.2.1.length + 1 ≤ 9223372036854775807 then
     if (s1.2.2.length + 1) * 8 ≤ 140737488355328 ∧ s1.2.2.length + 1 ≤ 9223372036854775807 then
      .next (IntKind.i64.wrap (s1.1 + 1), s1.2.1 ++ [(x0.getD s1.1.toNat default).1], s1.2.2 ++ [(x0.getD s1.1.toNat default).2])
      else .out none
     else .out none
    else .out none
   else .out (some (s1.2.1, x2, s1.2.2, x1))
def r80 (x0 : List (Int × Int)) (x1 : Int) (x2 : Int) : Option ((List (Int)) × Int × (List (Int)) × Int) :=
  iterC (b80_1 x0 x1 x2) 1000000000 (0, [], [])
def T80 : TSpec qA27 := mkT qE27 qd27 (fun ⟨x0, x1, x2⟩ => r80 x0 x1 x2) qu10 false
theorem TP80 (c0 c1 c2 : D) : T80.sp.pre [.agg [c0, c1, c2]] = (eqvArgs (qt27 c0 c1 c2) (qp27 qw27 c0 c1 c2) ∧ (qp27 r80 c0 c1 c2).isSome = true) := (rfl)
theorem TR80 (c0 c1 c2 : D) : T80.sp.res [.agg [c0, c1, c2]] = qu10 ((qp27 r80 c0 c1 c2).getD default) := (rfl)
theorem TA80 : T80.sp.alias = false := (rfl)
def tb80 : Fns := lk []
theorem tb80_ok : FnsOk Tryz.prog tb80 := FnsOk.nil
theorem lt80_0 : (IntKind.i64.wrap (0 + 1)) = 1 := by first | rfl | decide | simp
attribute [go_sem] TP80 TR80 TA80
section
attribute [local go_sem] T80 Tryz.results80 lt80_0
theorem v80 : Valid Tryz.prog 80 T80.sp := by
 refine valid_t (fn := Tryz.f80) (n := 38) ty_ok tb80_ok Tryz.func80 rfl Tryz.ntmps80 ?_
 rintro ⟨x0, x1, x2⟩ hx
 obtain ⟨r, hr⟩ := oE (show (r80 x0 x1 x2).isSome = true from hx)
 have hres : T80.res (x0, x1, x2) = qu10 r := by simp only [T80, mkT, hr, oG]
 refine ⟨nL rfl, fun stop S => ?_⟩
 rw [hres] at S
 unfold r80 at hr
 refine S.gx [] ?_
 repeat refine gA ?_
 refine S.own0b 2 0 2000200 1 rfl rfl (nL rfl) rfl ?_
 refine S.own0b 3 0 2000300 1 rfl rfl (nL rfl) rfl ?_
 refine S.sees [2, 3, 15, 16, 17] [(2, 2), (3, 3)] [(2000200, 2000200), (2000300, 2000300)] ?_ (Stop.iter S (fun s1 => ⟨[(2, .c (.ref 2 0)), (3, .c (.ref 3 0)), (15, .c (.d (encF 2 d_II x0))), (16, .c (.d (.int .i64 (x0.length : Int)))), (17, .c (.d (.int .i64 s1.1)))], [(2, [.own 2000200, .d (.int .i64 x2)]), (3, [.own 2000300, .d (.int .i64 x1)])], [(2000200, .owned (encF 1 d_I s1.2.1)), (2000300, .owned (encF 1 d_I s1.2.2))]⟩) (b80_1 x0 x1 x2) (fun q => q = r) hr rfl ?_)
 ·exact lf
 ·intro s1 hr
  unfold b80_1 at hr
  refine S.gx [] ?_
  repeat refine gA ?_
  refine ⟨?_, ?_⟩ <;> intro hc
  ·have hr := ifP1 hr hc
   obtain ⟨hg1, hr⟩ := of_guard1 hr
   obtain ⟨hg2, hr⟩ := of_guard1 hr
   obtain ⟨hg3, hr⟩ := of_guard1 hr
   repeat refine gA ?_
   refine S.sees [2, 3, 15, 16, 17] [(2, 2), (3, 3)] [(26, 2000200), (32, 2000300)] ?_ hr
   exact lf
  ·have hr := ifN1 hr hc
   repeat refine gA ?_
   have hr := of_out0 hr
   repeat refine gA ?_
   cases hr
   exact lf
theorem f80 : FnFact Tryz.prog 80 T80.sp := ⟨⟨Tryz.f80, Tryz.func80, by decide, rfl⟩, v80⟩
end

/- (martensite/heat.part).boxStep -/
def r43 (x0 : Int) (x1 : Int) (x2 : List (Int × Int)) (x3 : List ((List (Int × Int)))) (x4 : List (Int × Int)) (x5 : List ((List (Int × Int)))) (x6 : List (Int)) (x7 : List (Int)) (x8 : List (Int × Int)) (x9 : Int) (x10 : Int) : Option ((List (Int)) × (List (Int)) × Int) :=
  (r80 x8 x9 x10).bind fun v1 =>
   (r40 x0 x1 x2 x3 x4 x5 x6 v1.1 v1.2.1).bind fun v2 =>
    (r40 x0 x1 x2 x3 x4 x5 x7 v1.2.2.1 v1.2.2.2).bind fun v3 =>
     (r44 [v2.2.2, v3.2.2]).bind fun v4 =>
      if (v4 != 0) = true then
       some ([], [], v4)
       else some (v2.1, v3.1, 0)
def T43 : TSpec qA28 := mkT qE28 qd28 (fun ⟨x0, x1, x2, x3, x4, x5, x6, x7, x8, x9, x10⟩ => r43 x0 x1 x2 x3 x4 x5 x6 x7 x8 x9 x10) qu11 false
theorem TP43 (c0 c1 c2 c3 c4 c5 c6 c7 c8 c9 c10 : D) : T43.sp.pre [.agg [c0, c1, c2, c3, c4, c5], .agg [c6, c7], .agg [c8, c9, c10]] = (eqvArgs (qt28 c0 c1 c2 c3 c4 c5 c6 c7 c8 c9 c10) (qp28 qw28 c0 c1 c2 c3 c4 c5 c6 c7 c8 c9 c10) ∧ (qp28 r43 c0 c1 c2 c3 c4 c5 c6 c7 c8 c9 c10).isSome = true) := (rfl)
theorem TR43 (c0 c1 c2 c3 c4 c5 c6 c7 c8 c9 c10 : D) : T43.sp.res [.agg [c0, c1, c2, c3, c4, c5], .agg [c6, c7], .agg [c8, c9, c10]] = qu11 ((qp28 r43 c0 c1 c2 c3 c4 c5 c6 c7 c8 c9 c10).getD default) := (rfl)
theorem TA43 : T43.sp.alias = false := (rfl)
def tb43 : Fns := lk [(40, T40.sp), (44, T44.sp), (80, T80.sp)]
theorem tb43_ok : FnsOk Tryz.prog tb43 := .cons f40 (.cons f44 (.cons f80 (FnsOk.nil)))
theorem tb43_40 : tb43 40 = some T40.sp := rfl
theorem tb43_44 : tb43 44 = some T44.sp := rfl
theorem tb43_80 : tb43 80 = some T80.sp := rfl
attribute [go_sem] TP43 TR43 TA43
section
attribute [local go_sem] T43 tb43_40 tb43_44 tb43_80 Tryz.results43
theorem v43 : Valid Tryz.prog 43 T43.sp := by
 refine valid_t (fn := Tryz.f43) (n := 50) ty_ok tb43_ok Tryz.func43 rfl Tryz.ntmps43 ?_
 rintro ⟨x0, x1, x2, x3, x4, x5, x6, x7, x8, x9, x10⟩ hx
 obtain ⟨r, hr⟩ := oE (show (r43 x0 x1 x2 x3 x4 x5 x6 x7 x8 x9 x10).isSome = true from hx)
 have hres : T43.res (x0, x1, x2, x3, x4, x5, x6, x7, x8, x9, x10) = qu11 r := by simp only [T43, mkT, hr, oG]
 refine ⟨nL rfl, fun stop S => ?_⟩
 rw [hres] at S
 unfold r43 at hr
 refine S.gx [4] ?_
 obtain ⟨v1, hv1, hr⟩ := of_bind0 hr
 obtain ⟨v2, hv2, hr⟩ := of_bind0 hr
 obtain ⟨v3, hv3, hr⟩ := of_bind0 hr
 try simp only [hv1, hv2, hv3, Option.getD_some, Option.isSome_some, true_and, and_assoc]
 repeat refine gA ?_
 refine S.prune [6, 10, 12, 13, 15] ?_
 refine S.gx [] ?_
 obtain ⟨v4, hv4, hr⟩ := of_bind0 hr
 try simp only [hv4, oG, oI, true_and, and_assoc]
 repeat refine gA ?_
 refine ⟨?_, ?_⟩ <;> intro hc
 ·have hr := ifP hr hc
  repeat refine gA ?_
  cases hr
  exact lf
 ·have hr := ifN hr hc
  repeat refine gA ?_
  cases hr
  exact lf
theorem f43 : FnFact Tryz.prog 43 T43.sp := ⟨⟨Tryz.f43, Tryz.func43, by decide, rfl⟩, v43⟩
end

/- martensite/heat.BoxStep -/
def r15 (x5 : Int) (x6 : Int) (x7 : List (Int × Int)) (x8 : List ((List (Int × Int)))) (x0 : List (Int)) (x1 : List (Int)) (x2 : List (Int × Int)) (x3 : Int) (x4 : Int) : Option ((List (Int)) × (List (Int)) × Int) :=
  (r41 x5 x6 x7 x8 x0 x1).bind fun v1 =>
   if (v1.2.2.2.2.2.2 == 0) = true then
    (r42 v1.1 v1.2.1 v1.2.2.1 v1.2.2.2.1 v1.2.2.2.2.1 v1.2.2.2.2.2.1 x2 x3 x4).bind fun v2 =>
     if (v2 != 0) = true then
      some ([], [], v2)
      else (r43 v1.1 v1.2.1 v1.2.2.1 v1.2.2.2.1 v1.2.2.2.2.1 v1.2.2.2.2.2.1 x0 x1 x2 x3 x4).bind fun v3 =>
       some (v3.1, v3.2.1, v3.2.2)
    else if (v1.2.2.2.2.2.2 != 0) = true then
     some ([], [], v1.2.2.2.2.2.2)
     else (r43 v1.1 v1.2.1 v1.2.2.1 v1.2.2.2.1 v1.2.2.2.2.1 v1.2.2.2.2.2.1 x0 x1 x2 x3 x4).bind fun v4 =>
      some (v4.1, v4.2.1, v4.2.2)
def T15 : TSpec qA29 := mkT qE29 qd29 (fun ⟨x5, x6, x7, x8, x0, x1, x2, x3, x4⟩ => r15 x5 x6 x7 x8 x0 x1 x2 x3 x4) qu11 false
theorem TP15 (c0 c1 c2 c3 c4 c5 c6 c7 c8 : D) : T15.sp.pre [.agg [c0, c1, c2, c3], .agg [c4, c5], .agg [c6, c7, c8]] = (eqvArgs (qt29 c0 c1 c2 c3 c4 c5 c6 c7 c8) (qp29 qw29 c0 c1 c2 c3 c4 c5 c6 c7 c8) ∧ (qp29 r15 c0 c1 c2 c3 c4 c5 c6 c7 c8).isSome = true) := (rfl)
theorem TR15 (c0 c1 c2 c3 c4 c5 c6 c7 c8 : D) : T15.sp.res [.agg [c0, c1, c2, c3], .agg [c4, c5], .agg [c6, c7, c8]] = qu11 ((qp29 r15 c0 c1 c2 c3 c4 c5 c6 c7 c8).getD default) := (rfl)
theorem TA15 : T15.sp.alias = false := (rfl)
def tb15 : Fns := lk [(41, T41.sp), (42, T42.sp), (43, T43.sp)]
theorem tb15_ok : FnsOk Tryz.prog tb15 := .cons f41 (.cons f42 (.cons f43 (FnsOk.nil)))
theorem tb15_41 : tb15 41 = some T41.sp := rfl
theorem tb15_42 : tb15 42 = some T42.sp := rfl
theorem tb15_43 : tb15 43 = some T43.sp := rfl
attribute [go_sem] TP15 TR15 TA15
section
attribute [local go_sem] T15 tb15_41 tb15_42 tb15_43 Tryz.results15
theorem v15 : Valid Tryz.prog 15 T15.sp := by
 refine valid_t (fn := Tryz.f15) (n := 31) ty_ok tb15_ok Tryz.func15 rfl Tryz.ntmps15 ?_
 rintro ⟨x5, x6, x7, x8, x0, x1, x2, x3, x4⟩ hx
 obtain ⟨r, hr⟩ := oE (show (r15 x5 x6 x7 x8 x0 x1 x2 x3 x4).isSome = true from hx)
 have hres : T15.res (x5, x6, x7, x8, x0, x1, x2, x3, x4) = qu11 r := by simp only [T15, mkT, hr, oG]
 refine ⟨nL rfl, fun stop S => ?_⟩
 rw [hres] at S
 unfold r15 at hr
 refine S.gx [] ?_
 obtain ⟨v1, hv1, hr⟩ := of_bind0 hr
 try simp only [hv1, oG, oI, true_and, and_assoc]
 repeat refine gA ?_
 refine ⟨?_, ?_⟩ <;> intro hc
 ·have hr := ifP hr hc
  obtain ⟨v2, hv2, hr⟩ := of_bind0 hr
  try simp only [hv2, oG, oI, true_and, and_assoc]
  repeat refine gA ?_
  refine ⟨?_, ?_⟩ <;> intro hc
  ·have hr := ifP hr hc
   repeat refine gA ?_
   cases hr
   exact lf
  ·have hr := ifN hr hc
   obtain ⟨v3, hv3, hr⟩ := of_bind0 hr
   try simp only [hv3, oG, oI, true_and, and_assoc]
   repeat refine gA ?_
   cases hr
   exact lf
 ·have hr := ifN hr hc
  repeat refine gA ?_
  refine ⟨?_, ?_⟩ <;> intro hc
  ·have hr := ifP hr hc
   repeat refine gA ?_
   cases hr
   exact lf
  ·have hr := ifN hr hc
   obtain ⟨v4, hv4, hr⟩ := of_bind0 hr
   try simp only [hv4, oG, oI, true_and, and_assoc]
   repeat refine gA ?_
   cases hr
   exact lf
theorem f15 : FnFact Tryz.prog 15 T15.sp := ⟨⟨Tryz.f15, Tryz.func15, by decide, rfl⟩, v15⟩
end

/- martensite/heat.kelvinErr -/
def r45 (a0 : Int) : Option (Int) :=
  (r81 a0).bind fun v1 =>
   (r48 v1 2).bind fun v2 =>
    some v2
def T45 : TSpec qA4 := mkT qE4 qd4 r45 qu2 false
theorem TP45 (c0 : D) : T45.sp.pre [.c c0] = (eqvArgs (qt4 c0) (qp4 qw4 c0) ∧ (qp4 r45 c0).isSome = true) := (rfl)
theorem TR45 (c0 : D) : T45.sp.res [.c c0] = qu2 ((qp4 r45 c0).getD default) := (rfl)
theorem TA45 : T45.sp.alias = false := (rfl)
def tb45 : Fns := lk [(48, T48.sp), (81, T81.sp)]
theorem tb45_ok : FnsOk Tryz.prog tb45 := .cons f48 (.cons f81 (FnsOk.nil))
theorem tb45_48 : tb45 48 = some T48.sp := rfl
theorem tb45_81 : tb45 81 = some T81.sp := rfl
attribute [go_sem] TP45 TR45 TA45
section
attribute [local go_sem] T45 tb45_48 tb45_81 Tryz.results45
theorem v45 : Valid Tryz.prog 45 T45.sp := by
 refine valid_t (fn := Tryz.f45) (n := 6) ty_ok tb45_ok Tryz.func45 rfl Tryz.ntmps45 ?_
 rintro a0 hx
 obtain ⟨r, hr⟩ := oE (show (r45 a0).isSome = true from hx)
 have hres : T45.res a0 = qu2 r := by simp only [T45, mkT, hr, oG]
 refine ⟨nL rfl, fun stop S => ?_⟩
 rw [hres] at S
 unfold r45 at hr
 refine S.gx [] ?_
 obtain ⟨v1, hv1, hr⟩ := of_bind0 hr
 obtain ⟨v2, hv2, hr⟩ := of_bind0 hr
 try simp only [hv1, hv2, Option.getD_some, Option.isSome_some, true_and, and_assoc]
 repeat refine gA ?_
 cases hr
 exact lf
theorem f45 : FnFact Tryz.prog 45 T45.sp := ⟨⟨Tryz.f45, Tryz.func45, by decide, rfl⟩, v45⟩
end

/- (martensite/heat.part).compared -/
def r84 (x0 : Int) (x1 : Int) (x2 : List (Int × Int)) (x3 : List ((List (Int × Int)))) (x4 : List (Int × Int)) (x5 : List ((List (Int × Int)))) (a1 : Int) (a2 : Int) : Option (Int) :=
  (r101 x0 x1 x2 x3 x4 x5 a1).bind fun v1 =>
   some (IntKind.i64.wrap (v1.1 - (IntKind.i64.wrap (a2 * v1.2))))
def T84 : TSpec qA20 := mkT qE20 qd20 (fun ⟨x0, x1, x2, x3, x4, x5, a1, a2⟩ => r84 x0 x1 x2 x3 x4 x5 a1 a2) qu2 false
theorem TP84 (c0 c1 c2 c3 c4 c5 c6 c7 : D) : T84.sp.pre [.agg [c0, c1, c2, c3, c4, c5], .c c6, .c c7] = (eqvArgs (qt20 c0 c1 c2 c3 c4 c5 c6 c7) (qp20 qw20 c0 c1 c2 c3 c4 c5 c6 c7) ∧ (qp20 r84 c0 c1 c2 c3 c4 c5 c6 c7).isSome = true) := (rfl)
theorem TR84 (c0 c1 c2 c3 c4 c5 c6 c7 : D) : T84.sp.res [.agg [c0, c1, c2, c3, c4, c5], .c c6, .c c7] = qu2 ((qp20 r84 c0 c1 c2 c3 c4 c5 c6 c7).getD default) := (rfl)
theorem TA84 : T84.sp.alias = false := (rfl)
def tb84 : Fns := lk [(101, T101.sp)]
theorem tb84_ok : FnsOk Tryz.prog tb84 := .cons f101 (FnsOk.nil)
theorem tb84_101 : tb84 101 = some T101.sp := rfl
attribute [go_sem] TP84 TR84 TA84
section
attribute [local go_sem] T84 tb84_101 Tryz.results84
theorem v84 : Valid Tryz.prog 84 T84.sp := by
 refine valid_t (fn := Tryz.f84) (n := 18) ty_ok tb84_ok Tryz.func84 rfl Tryz.ntmps84 ?_
 rintro ⟨x0, x1, x2, x3, x4, x5, a1, a2⟩ hx
 obtain ⟨r, hr⟩ := oE (show (r84 x0 x1 x2 x3 x4 x5 a1 a2).isSome = true from hx)
 have hres : T84.res (x0, x1, x2, x3, x4, x5, a1, a2) = qu2 r := by simp only [T84, mkT, hr, oG]
 refine ⟨nL rfl, fun stop S => ?_⟩
 rw [hres] at S
 unfold r84 at hr
 refine S.gx [] ?_
 obtain ⟨v1, hv1, hr⟩ := of_bind0 hr
 try simp only [hv1, oG, oI, true_and, and_assoc]
 repeat refine gA ?_
 cases hr
 exact lf
theorem f84 : FnFact Tryz.prog 84 T84.sp := ⟨⟨Tryz.f84, Tryz.func84, by decide, rfl⟩, v84⟩
end

/- (martensite/heat.part).depth$1 -/
def r83 (a0 : Int) (x0 : Int) (x1 : Int) (x2 : List (Int × Int)) (x3 : List ((List (Int × Int)))) (x4 : List (Int × Int)) (x5 : List ((List (Int × Int)))) (x6 : Int) : Option (Bool) :=
  (r84 x0 x1 x2 x3 x4 x5 a0 x6).bind fun v1 =>
   some (decide (v1 < 0))
def T83 : TSpec qA30 := mkT qE30 qd30 (fun ⟨a0, x0, x1, x2, x3, x4, x5, x6⟩ => r83 a0 x0 x1 x2 x3 x4 x5 x6) qu1 false
theorem TP83 (c0 c1 c2 c3 c4 c5 c6 c7 : D) : T83.sp.pre [.c c0, .ptr [c1, c2, c3, c4, c5, c6], .ptr [c7]] = (eqvArgs (qt30 c0 c1 c2 c3 c4 c5 c6 c7) (qp30 qw30 c0 c1 c2 c3 c4 c5 c6 c7) ∧ (qp30 r83 c0 c1 c2 c3 c4 c5 c6 c7).isSome = true) := (rfl)
theorem TR83 (c0 c1 c2 c3 c4 c5 c6 c7 : D) : T83.sp.res [.c c0, .ptr [c1, c2, c3, c4, c5, c6], .ptr [c7]] = qu1 ((qp30 r83 c0 c1 c2 c3 c4 c5 c6 c7).getD default) := (rfl)
theorem TA83 : T83.sp.alias = false := (rfl)
def tb83 : Fns := lk [(84, T84.sp)]
theorem tb83_ok : FnsOk Tryz.prog tb83 := .cons f84 (FnsOk.nil)
theorem tb83_84 : tb83 84 = some T84.sp := rfl
attribute [go_sem] TP83 TR83 TA83
section
attribute [local go_sem] T83 tb83_84 Tryz.results83
theorem v83 : Valid Tryz.prog 83 T83.sp := by
 refine valid_t (fn := Tryz.f83) (n := 10) ty_ok tb83_ok Tryz.func83 rfl Tryz.ntmps83 ?_
 rintro ⟨a0, x0, x1, x2, x3, x4, x5, x6⟩ hx
 obtain ⟨r, hr⟩ := oE (show (r83 a0 x0 x1 x2 x3 x4 x5 x6).isSome = true from hx)
 have hres : T83.res (a0, x0, x1, x2, x3, x4, x5, x6) = qu1 r := by simp only [T83, mkT, hr, oG]
 refine ⟨nL rfl, fun stop S => ?_⟩
 rw [hres] at S
 unfold r83 at hr
 refine S.gx [] ?_
 obtain ⟨v1, hv1, hr⟩ := of_bind0 hr
 try simp only [hv1, oG, oI, true_and, and_assoc]
 repeat refine gA ?_
 cases hr
 exact lf
theorem f83 : FnFact Tryz.prog 83 T83.sp := ⟨⟨Tryz.f83, Tryz.func83, by decide, rfl⟩, v83⟩
end

/- slices.IndexFunc[[]int,int] -/
def b82c_1 (a0 : List (Int)) (x0 : Int) (x1 : Int) (x2 : List (Int × Int)) (x3 : List ((List (Int × Int)))) (x4 : List (Int × Int)) (x5 : List ((List (Int × Int)))) (x6 : Int) : (Int) → Ctl (Int) (Int) := fun s1 =>
  if (decide (s1 < (a0.length : Int))) = true then
   if 0 ≤ s1 ∧ s1 < (a0.length : Int) then
    bindC (r83 (a0.getD s1.toNat default) x0 x1 x2 x3 x4 x5 x6) fun v1 =>
     if v1 = true then
      .out (some s1)
      else .next (IntKind.i64.wrap (s1 + 1))
    else .out none
   else .out (some (-1))
def r82c (a0 : List (Int)) (x0 : Int) (x1 : Int) (x2 : List (Int × Int)) (x3 : List ((List (Int × Int)))) (x4 : List (Int × Int)) (x5 : List ((List (Int × Int)))) (x6 : Int) : Option (Int) :=
  iterC (b82c_1 a0 x0 x1 x2 x3 x4 x5 x6) 1000000000 0
def T82c : TSpec qA31 := mkT qE31 qd31 (fun ⟨a0, x0, x1, x2, x3, x4, x5, x6⟩ => r82c a0 x0 x1 x2 x3 x4 x5 x6) qu2 false
theorem TP82c (c0 c1 c2 c3 c4 c5 c6 c7 : D) : T82c.sp.pre [.c c0, .clo 83 [[c1, c2, c3, c4, c5, c6], [c7]]] = (eqvArgs (qt31 c0 c1 c2 c3 c4 c5 c6 c7) (qp31 qw31 c0 c1 c2 c3 c4 c5 c6 c7) ∧ (qp31 r82c c0 c1 c2 c3 c4 c5 c6 c7).isSome = true) := (rfl)
theorem TR82c (c0 c1 c2 c3 c4 c5 c6 c7 : D) : T82c.sp.res [.c c0, .clo 83 [[c1, c2, c3, c4, c5, c6], [c7]]] = qu2 ((qp31 r82c c0 c1 c2 c3 c4 c5 c6 c7).getD default) := (rfl)
theorem TA82c : T82c.sp.alias = false := (rfl)
def tb82c : Fns := lk [(83, T83.sp)]
theorem tb82c_ok : FnsOk Tryz.prog tb82c := .cons f83 (FnsOk.nil)
theorem tb82c_83 : tb82c 83 = some T83.sp := rfl
theorem lt82c_0 : (IntKind.i64.wrap (0 + 1)) = 1 := by first | rfl | decide | simp
attribute [go_sem] TP82c TR82c TA82c
section
attribute [local go_sem] T82c tb82c_83 Tryz.results82 lt82c_0
theorem v82c : Valid Tryz.prog 82 T82c.sp := by
  refine valid_t (fn := Tryz.f82) (n := 19) ty_ok tb82c_ok Tryz.func82 rfl Tryz.ntmps82 ?_
  rintro ⟨a0, x0, x1, x2, x3, x4, x5, x6⟩ hx
  obtain ⟨r, hr⟩ := oE (show (r82c a0 x0 x1 x2 x3 x4 x5 x6).isSome = true from hx)
  have hres : T82c.res (a0, x0, x1, x2, x3, x4, x5, x6) = qu2 r := by simp only [T82c, mkT, hr, oG]
  refine ⟨nL rfl, fun stop S => ?_⟩
  rw [hres] at S
  unfold r82c at hr
  refine S.gx [] ?_
  repeat refine gA ?_
  refine S.sees [0, 1, 7, 8] [] [] ?_ (Stop.iter S (fun s1 => ⟨[(0, .c (.d (encF 1 d_I a0))), (1, .c (.clo 83 [.sptr [.int .i64 x0, .int .i64 x1, encF 2 d_II x2, encF 1 d_LIIE x3, encF 2 d_II x4, encF 1 d_LIIE x5] 0, .sptr [.int .i64 x6] 0])), (7, .c (.d (.int .i64 (a0.length : Int)))), (8, .c (.d (.int .i64 s1)))], [], []⟩) (b82c_1 a0 x0 x1 x2 x3 x4 x5 x6) (fun q => q = r) hr rfl ?_)
  · exact lf
  · intro s1 hr
    unfold b82c_1 at hr
    refine S.gx [] ?_
    repeat refine gA ?_
    refine ⟨fun hc => ?_, fun hc => ?_⟩
    · replace hr := ifP1 hr hc
      obtain ⟨hg2, hr⟩ := of_guard1 hr
      obtain ⟨v1, hv1, hr⟩ := of_bind1 hr
      try simp only [hv1, oG, oI, true_and, and_assoc]
      repeat refine gA ?_
      refine ⟨fun hc => ?_, fun hc => ?_⟩
      · replace hr := ifP1 hr hc
        repeat refine gA ?_
        have hr := of_out0 hr
        obtain rfl := Option.some.inj hr
        exact lf
      · replace hr := ifN1 hr hc
        repeat refine gA ?_
        refine S.sees [0, 1, 7, 8] [] [] ?_ hr
        exact lf
    · replace hr := ifN1 hr hc
      repeat refine gA ?_
      have hr := of_out0 hr
      repeat refine gA ?_
      obtain rfl := Option.some.inj hr
      exact lf
theorem f82c : FnFact Tryz.prog 82 T82c.sp := ⟨⟨Tryz.f82, Tryz.func82, by decide, rfl⟩, v82c⟩
end

/- (martensite/heat.part).depth -/
def r46 (x0 : Int) (x1 : Int) (x2 : List (Int × Int)) (x3 : List ((List (Int × Int)))) (x4 : List (Int × Int)) (x5 : List ((List (Int × Int)))) (a1 : List (Int)) (a2 : Int) : Option (Int) :=
  (r82c a1 x0 x1 x2 x3 x4 x5 a2).bind fun v1 =>
   if (decide (v1 < 0)) = true then
    some (a1.length : Int)
    else some v1
def T46 : TSpec qA32 := mkT qE32 qd32 (fun ⟨x0, x1, x2, x3, x4, x5, a1, a2⟩ => r46 x0 x1 x2 x3 x4 x5 a1 a2) qu2 false
theorem TP46 (c0 c1 c2 c3 c4 c5 c6 c7 : D) : T46.sp.pre [.agg [c0, c1, c2, c3, c4, c5], .c c6, .c c7] = (eqvArgs (qt32 c0 c1 c2 c3 c4 c5 c6 c7) (qp32 qw32 c0 c1 c2 c3 c4 c5 c6 c7) ∧ (qp32 r46 c0 c1 c2 c3 c4 c5 c6 c7).isSome = true) := (rfl)
theorem TR46 (c0 c1 c2 c3 c4 c5 c6 c7 : D) : T46.sp.res [.agg [c0, c1, c2, c3, c4, c5], .c c6, .c c7] = qu2 ((qp32 r46 c0 c1 c2 c3 c4 c5 c6 c7).getD default) := (rfl)
theorem TA46 : T46.sp.alias = false := (rfl)
def tb46 : Fns := lk [(82, T82c.sp)]
theorem tb46_ok : FnsOk Tryz.prog tb46 := .cons f82c (FnsOk.nil)
theorem tb46_82 : tb46 82 = some T82c.sp := rfl
attribute [go_sem] TP46 TR46 TA46
section
attribute [local go_sem] T46 tb46_82 Tryz.results46
theorem v46 : Valid Tryz.prog 46 T46.sp := by
 refine valid_t (fn := Tryz.f46) (n := 16) ty_ok tb46_ok Tryz.func46 rfl Tryz.ntmps46 ?_
 rintro ⟨x0, x1, x2, x3, x4, x5, a1, a2⟩ hx
 obtain ⟨r, hr⟩ := oE (show (r46 x0 x1 x2 x3 x4 x5 a1 a2).isSome = true from hx)
 have hres : T46.res (x0, x1, x2, x3, x4, x5, a1, a2) = qu2 r := by simp only [T46, mkT, hr, oG]
 refine ⟨nL rfl, fun stop S => ?_⟩
 rw [hres] at S
 unfold r46 at hr
 refine S.gx [] ?_
 obtain ⟨v1, hv1, hr⟩ := of_bind0 hr
 try simp only [hv1, oG, oI, true_and, and_assoc]
 repeat refine gA ?_
 refine ⟨?_, ?_⟩ <;> intro hc
 ·have hr := ifP hr hc
  repeat refine gA ?_
  cases hr
  exact lf
 ·have hr := ifN hr hc
  repeat refine gA ?_
  cases hr
  exact lf
theorem f46 : FnFact Tryz.prog 46 T46.sp := ⟨⟨Tryz.f46, Tryz.func46, by decide, rfl⟩, v46⟩
end
end Go.Proofs.YtefijdjbhjdhdaaGreatDoor

/- Contracts of functions, written by wip/dec. -/
import Derived.Test.YthldpejmofhaoaaGreatDoorF00
import Derived.Test.YthldpejmofhaoaaGreatDoorF01
import Derived.Test.YthldpejmofhaoaaGreatDoorF02
import Derived.Test.YthldpejmofhaoaaGreatDoorF03
import Derived.Test.YthldpejmofhaoaaGreatDoorF04
import Derived.Test.YthldpejmofhaoaaGreatDoorF05
import Derived.Test.YthldpejmofhaoaaGreatDoorF06
set_option linter.unusedVariables false
set_option linter.unusedSimpArgs false
set_option maxHeartbeats 4000000
set_option maxRecDepth 20000
namespace Go.Proofs.YthldpejmofhaoaaGreatDoor
open Go.Abs
section
variable {β : Type} [Inhabited β] (u : β → List RV) (al : Bool)
abbrev qF48 (β : Type) := L_II → Int → Int → β
def qw48 (a0 : L_II) (a1 a2 : Int) : List Arg := [.agg [encF 2 d_II a0, .int .i64 a1, .int .i64 a2]]
def qd48 (a : List Arg) := (decF g_II (aCell a 0 0), dInt (aCell a 0 1), dInt (aCell a 0 2))
def qp48 {β : Type} (f : qF48 β) (c0 c1 c2 : D) := f (decF g_II c0) (dInt c1) (dInt c2)
abbrev qt48 (c0 c1 c2 : D) : List Arg := [.agg [c0, c1, c2]]
def qT48 (r : qF48 (Option β)) := mkT (u3 qw48) qd48 (u3 r) u al
theorem qP48 (r : qF48 (Option β)) (c0 c1 c2 : D) : PT (qT48 u al r).sp u (qt48 c0 c1 c2) (qp48 qw48 c0 c1 c2) (qp48 r c0 c1 c2) := ⟨rfl, rfl⟩
theorem qa48 (r : qF48 (Option β)) : (qT48 u al r).sp.alias = al := rfl
attribute [go_sem] qw48 qp48 qt48 qP48 qa48
abbrev qF49 (β : Type) := L_LIIEII → β
def qw49 (a0 : L_LIIEII) : List Arg := [.c (encF 3 d_LIIEII a0)]
def qd49 (a : List Arg) := decF g_LIIEII (aCell a 0 0)
def qp49 {β : Type} (f : qF49 β) (c0 : D) := f (decF g_LIIEII c0)
abbrev qt49 (c0 : D) : List Arg := [.c c0]
def qT49 (r : qF49 (Option β)) := mkT (u1 qw49) qd49 (u1 r) u al
theorem qP49 (r : qF49 (Option β)) (c0 : D) : PT (qT49 u al r).sp u (qt49 c0) (qp49 qw49 c0) (qp49 r c0) := ⟨rfl, rfl⟩
theorem qa49 (r : qF49 (Option β)) : (qT49 u al r).sp.alias = al := rfl
attribute [go_sem] qw49 qp49 qt49 qP49 qa49
abbrev qF50 (β : Type) := Int → Int → L_II → L_LIIE → L_II → L_LIIE → L_I → L_I → β
def qw50 (a0 a1 : Int) (a2 : L_II) (a3 : L_LIIE) (a4 : L_II) (a5 : L_LIIE) (a6 a7 : L_I) : List Arg := [.agg [.int .i64 a0, .int .i64 a1, encF 2 d_II a2, encF 1 d_LIIE a3, encF 2 d_II a4, encF 1 d_LIIE a5], .agg [encF 1 d_I a6, encF 1 d_I a7]]
def qd50 (a : List Arg) := (dInt (aCell a 0 0), dInt (aCell a 0 1), decF g_II (aCell a 0 2), decF g_LIIE (aCell a 0 3), decF g_II (aCell a 0 4), decF g_LIIE (aCell a 0 5), decF g_I (aCell a 1 0), decF g_I (aCell a 1 1))
def qp50 {β : Type} (f : qF50 β) (c0 c1 c2 c3 c4 c5 c6 c7 : D) := f (dInt c0) (dInt c1) (decF g_II c2) (decF g_LIIE c3) (decF g_II c4) (decF g_LIIE c5) (decF g_I c6) (decF g_I c7)
abbrev qt50 (c0 c1 c2 c3 c4 c5 c6 c7 : D) : List Arg := [.agg [c0, c1, c2, c3, c4, c5], .agg [c6, c7]]
def qT50 (r : qF50 (Option β)) := mkT (u8 qw50) qd50 (u8 r) u al
theorem qP50 (r : qF50 (Option β)) (c0 c1 c2 c3 c4 c5 c6 c7 : D) : PT (qT50 u al r).sp u (qt50 c0 c1 c2 c3 c4 c5 c6 c7) (qp50 qw50 c0 c1 c2 c3 c4 c5 c6 c7) (qp50 r c0 c1 c2 c3 c4 c5 c6 c7) := ⟨rfl, rfl⟩
theorem qa50 (r : qF50 (Option β)) : (qT50 u al r).sp.alias = al := rfl
attribute [go_sem] qw50 qp50 qt50 qP50 qa50
abbrev qF51 (β : Type) := Int → Int → L_II → L_LIIE → L_I → L_I → β
def qw51 (a0 a1 : Int) (a2 : L_II) (a3 : L_LIIE) (a4 a5 : L_I) : List Arg := [.agg [.int .i64 a0, .int .i64 a1, encF 2 d_II a2, encF 1 d_LIIE a3], .agg [encF 1 d_I a4, encF 1 d_I a5]]
def qd51 (a : List Arg) := (dInt (aCell a 0 0), dInt (aCell a 0 1), decF g_II (aCell a 0 2), decF g_LIIE (aCell a 0 3), decF g_I (aCell a 1 0), decF g_I (aCell a 1 1))
def qp51 {β : Type} (f : qF51 β) (c0 c1 c2 c3 c4 c5 : D) := f (dInt c0) (dInt c1) (decF g_II c2) (decF g_LIIE c3) (decF g_I c4) (decF g_I c5)
abbrev qt51 (c0 c1 c2 c3 c4 c5 : D) : List Arg := [.agg [c0, c1, c2, c3], .agg [c4, c5]]
def qT51 (r : qF51 (Option β)) := mkT (u6 qw51) qd51 (u6 r) u al
theorem qP51 (r : qF51 (Option β)) (c0 c1 c2 c3 c4 c5 : D) : PT (qT51 u al r).sp u (qt51 c0 c1 c2 c3 c4 c5) (qp51 qw51 c0 c1 c2 c3 c4 c5) (qp51 r c0 c1 c2 c3 c4 c5) := ⟨rfl, rfl⟩
theorem qa51 (r : qF51 (Option β)) : (qT51 u al r).sp.alias = al := rfl
attribute [go_sem] qw51 qp51 qt51 qP51 qa51
abbrev qF52 (β : Type) := Int → Int → L_II → L_LIIE → L_II → L_LIIE → L_II → Int → Int → β
def qw52 (a0 a1 : Int) (a2 : L_II) (a3 : L_LIIE) (a4 : L_II) (a5 : L_LIIE) (a6 : L_II) (a7 a8 : Int) : List Arg := [.agg [.int .i64 a0, .int .i64 a1, encF 2 d_II a2, encF 1 d_LIIE a3, encF 2 d_II a4, encF 1 d_LIIE a5], .agg [encF 2 d_II a6, .int .i64 a7, .int .i64 a8]]
def qd52 (a : List Arg) := (dInt (aCell a 0 0), dInt (aCell a 0 1), decF g_II (aCell a 0 2), decF g_LIIE (aCell a 0 3), decF g_II (aCell a 0 4), decF g_LIIE (aCell a 0 5), decF g_II (aCell a 1 0), dInt (aCell a 1 1), dInt (aCell a 1 2))
def qp52 {β : Type} (f : qF52 β) (c0 c1 c2 c3 c4 c5 c6 c7 c8 : D) := f (dInt c0) (dInt c1) (decF g_II c2) (decF g_LIIE c3) (decF g_II c4) (decF g_LIIE c5) (decF g_II c6) (dInt c7) (dInt c8)
abbrev qt52 (c0 c1 c2 c3 c4 c5 c6 c7 c8 : D) : List Arg := [.agg [c0, c1, c2, c3, c4, c5], .agg [c6, c7, c8]]
def qT52 (r : qF52 (Option β)) := mkT (u9 qw52) qd52 (u9 r) u al
theorem qP52 (r : qF52 (Option β)) (c0 c1 c2 c3 c4 c5 c6 c7 c8 : D) : PT (qT52 u al r).sp u (qt52 c0 c1 c2 c3 c4 c5 c6 c7 c8) (qp52 qw52 c0 c1 c2 c3 c4 c5 c6 c7 c8) (qp52 r c0 c1 c2 c3 c4 c5 c6 c7 c8) := ⟨rfl, rfl⟩
theorem qa52 (r : qF52 (Option β)) : (qT52 u al r).sp.alias = al := rfl
attribute [go_sem] qw52 qp52 qt52 qP52 qa52
abbrev qF53 (β : Type) := Int → Int → L_II → L_LIIE → L_II → L_LIIE → L_LIIEII → β
def qw53 (a0 a1 : Int) (a2 : L_II) (a3 : L_LIIE) (a4 : L_II) (a5 : L_LIIE) (a6 : L_LIIEII) : List Arg := [.agg [.int .i64 a0, .int .i64 a1, encF 2 d_II a2, encF 1 d_LIIE a3, encF 2 d_II a4, encF 1 d_LIIE a5], .c (encF 3 d_LIIEII a6)]
def qd53 (a : List Arg) := (dInt (aCell a 0 0), dInt (aCell a 0 1), decF g_II (aCell a 0 2), decF g_LIIE (aCell a 0 3), decF g_II (aCell a 0 4), decF g_LIIE (aCell a 0 5), decF g_LIIEII (aCell a 1 0))
def qp53 {β : Type} (f : qF53 β) (c0 c1 c2 c3 c4 c5 c6 : D) := f (dInt c0) (dInt c1) (decF g_II c2) (decF g_LIIE c3) (decF g_II c4) (decF g_LIIE c5) (decF g_LIIEII c6)
abbrev qt53 (c0 c1 c2 c3 c4 c5 c6 : D) : List Arg := [.agg [c0, c1, c2, c3, c4, c5], .c c6]
def qT53 (r : qF53 (Option β)) := mkT (u7 qw53) qd53 (u7 r) u al
theorem qP53 (r : qF53 (Option β)) (c0 c1 c2 c3 c4 c5 c6 : D) : PT (qT53 u al r).sp u (qt53 c0 c1 c2 c3 c4 c5 c6) (qp53 qw53 c0 c1 c2 c3 c4 c5 c6) (qp53 r c0 c1 c2 c3 c4 c5 c6) := ⟨rfl, rfl⟩
theorem qa53 (r : qF53 (Option β)) : (qT53 u al r).sp.alias = al := rfl
attribute [go_sem] qw53 qp53 qt53 qP53 qa53
abbrev qF54 (β : Type) := Int → Int → L_II → L_LIIE → L_II → L_LIIE → L_I → L_I → L_II → Int → Int → β
def qw54 (a0 a1 : Int) (a2 : L_II) (a3 : L_LIIE) (a4 : L_II) (a5 : L_LIIE) (a6 a7 : L_I) (a8 : L_II) (a9 a10 : Int) : List Arg := [.agg [.int .i64 a0, .int .i64 a1, encF 2 d_II a2, encF 1 d_LIIE a3, encF 2 d_II a4, encF 1 d_LIIE a5], .agg [encF 1 d_I a6, encF 1 d_I a7], .agg [encF 2 d_II a8, .int .i64 a9, .int .i64 a10]]
def qd54 (a : List Arg) := (dInt (aCell a 0 0), dInt (aCell a 0 1), decF g_II (aCell a 0 2), decF g_LIIE (aCell a 0 3), decF g_II (aCell a 0 4), decF g_LIIE (aCell a 0 5), decF g_I (aCell a 1 0), decF g_I (aCell a 1 1), decF g_II (aCell a 2 0), dInt (aCell a 2 1), dInt (aCell a 2 2))
def qp54 {β : Type} (f : qF54 β) (c0 c1 c2 c3 c4 c5 c6 c7 c8 c9 c10 : D) := f (dInt c0) (dInt c1) (decF g_II c2) (decF g_LIIE c3) (decF g_II c4) (decF g_LIIE c5) (decF g_I c6) (decF g_I c7) (decF g_II c8) (dInt c9) (dInt c10)
abbrev qt54 (c0 c1 c2 c3 c4 c5 c6 c7 c8 c9 c10 : D) : List Arg := [.agg [c0, c1, c2, c3, c4, c5], .agg [c6, c7], .agg [c8, c9, c10]]
def qT54 (r : qF54 (Option β)) := mkT (u11 qw54) qd54 (u11 r) u al
theorem qP54 (r : qF54 (Option β)) (c0 c1 c2 c3 c4 c5 c6 c7 c8 c9 c10 : D) : PT (qT54 u al r).sp u (qt54 c0 c1 c2 c3 c4 c5 c6 c7 c8 c9 c10) (qp54 qw54 c0 c1 c2 c3 c4 c5 c6 c7 c8 c9 c10) (qp54 r c0 c1 c2 c3 c4 c5 c6 c7 c8 c9 c10) := ⟨rfl, rfl⟩
theorem qa54 (r : qF54 (Option β)) : (qT54 u al r).sp.alias = al := rfl
attribute [go_sem] qw54 qp54 qt54 qP54 qa54
abbrev qF55 (β : Type) := Int → Int → L_II → L_LIIE → L_II → L_LIIE → L_I → L_I → L_LIIEII → β
def qw55 (a0 a1 : Int) (a2 : L_II) (a3 : L_LIIE) (a4 : L_II) (a5 : L_LIIE) (a6 a7 : L_I) (a8 : L_LIIEII) : List Arg := [.agg [.int .i64 a0, .int .i64 a1, encF 2 d_II a2, encF 1 d_LIIE a3, encF 2 d_II a4, encF 1 d_LIIE a5], .agg [encF 1 d_I a6, encF 1 d_I a7], .c (encF 3 d_LIIEII a8)]
def qd55 (a : List Arg) := (dInt (aCell a 0 0), dInt (aCell a 0 1), decF g_II (aCell a 0 2), decF g_LIIE (aCell a 0 3), decF g_II (aCell a 0 4), decF g_LIIE (aCell a 0 5), decF g_I (aCell a 1 0), decF g_I (aCell a 1 1), decF g_LIIEII (aCell a 2 0))
def qp55 {β : Type} (f : qF55 β) (c0 c1 c2 c3 c4 c5 c6 c7 c8 : D) := f (dInt c0) (dInt c1) (decF g_II c2) (decF g_LIIE c3) (decF g_II c4) (decF g_LIIE c5) (decF g_I c6) (decF g_I c7) (decF g_LIIEII c8)
abbrev qt55 (c0 c1 c2 c3 c4 c5 c6 c7 c8 : D) : List Arg := [.agg [c0, c1, c2, c3, c4, c5], .agg [c6, c7], .c c8]
def qT55 (r : qF55 (Option β)) := mkT (u9 qw55) qd55 (u9 r) u al
theorem qP55 (r : qF55 (Option β)) (c0 c1 c2 c3 c4 c5 c6 c7 c8 : D) : PT (qT55 u al r).sp u (qt55 c0 c1 c2 c3 c4 c5 c6 c7 c8) (qp55 qw55 c0 c1 c2 c3 c4 c5 c6 c7 c8) (qp55 r c0 c1 c2 c3 c4 c5 c6 c7 c8) := ⟨rfl, rfl⟩
theorem qa55 (r : qF55 (Option β)) : (qT55 u al r).sp.alias = al := rfl
attribute [go_sem] qw55 qp55 qt55 qP55 qa55
abbrev qF56 (β : Type) := Int → Int → L_II → L_LIIE → L_I → L_I → L_LIIEII → β
def qw56 (a0 a1 : Int) (a2 : L_II) (a3 : L_LIIE) (a4 a5 : L_I) (a6 : L_LIIEII) : List Arg := [.agg [.int .i64 a0, .int .i64 a1, encF 2 d_II a2, encF 1 d_LIIE a3], .agg [encF 1 d_I a4, encF 1 d_I a5], .c (encF 3 d_LIIEII a6)]
def qd56 (a : List Arg) := (dInt (aCell a 0 0), dInt (aCell a 0 1), decF g_II (aCell a 0 2), decF g_LIIE (aCell a 0 3), decF g_I (aCell a 1 0), decF g_I (aCell a 1 1), decF g_LIIEII (aCell a 2 0))
def qp56 {β : Type} (f : qF56 β) (c0 c1 c2 c3 c4 c5 c6 : D) := f (dInt c0) (dInt c1) (decF g_II c2) (decF g_LIIE c3) (decF g_I c4) (decF g_I c5) (decF g_LIIEII c6)
abbrev qt56 (c0 c1 c2 c3 c4 c5 c6 : D) : List Arg := [.agg [c0, c1, c2, c3], .agg [c4, c5], .c c6]
def qT56 (r : qF56 (Option β)) := mkT (u7 qw56) qd56 (u7 r) u al
theorem qP56 (r : qF56 (Option β)) (c0 c1 c2 c3 c4 c5 c6 : D) : PT (qT56 u al r).sp u (qt56 c0 c1 c2 c3 c4 c5 c6) (qp56 qw56 c0 c1 c2 c3 c4 c5 c6) (qp56 r c0 c1 c2 c3 c4 c5 c6) := ⟨rfl, rfl⟩
theorem qa56 (r : qF56 (Option β)) : (qT56 u al r).sp.alias = al := rfl
attribute [go_sem] qw56 qp56 qt56 qP56 qa56
abbrev qF57 (β : Type) := Int → Int → L_II → L_LIIE → L_I → L_I → L_LIIEII → Int → β
def qw57 (a0 a1 : Int) (a2 : L_II) (a3 : L_LIIE) (a4 a5 : L_I) (a6 : L_LIIEII) (a7 : Int) : List Arg := [.agg [.int .i64 a0, .int .i64 a1, encF 2 d_II a2, encF 1 d_LIIE a3], .agg [encF 1 d_I a4, encF 1 d_I a5], .agg [encF 3 d_LIIEII a6, .int .i64 a7]]
def qd57 (a : List Arg) := (dInt (aCell a 0 0), dInt (aCell a 0 1), decF g_II (aCell a 0 2), decF g_LIIE (aCell a 0 3), decF g_I (aCell a 1 0), decF g_I (aCell a 1 1), decF g_LIIEII (aCell a 2 0), dInt (aCell a 2 1))
def qp57 {β : Type} (f : qF57 β) (c0 c1 c2 c3 c4 c5 c6 c7 : D) := f (dInt c0) (dInt c1) (decF g_II c2) (decF g_LIIE c3) (decF g_I c4) (decF g_I c5) (decF g_LIIEII c6) (dInt c7)
abbrev qt57 (c0 c1 c2 c3 c4 c5 c6 c7 : D) : List Arg := [.agg [c0, c1, c2, c3], .agg [c4, c5], .agg [c6, c7]]
def qT57 (r : qF57 (Option β)) := mkT (u8 qw57) qd57 (u8 r) u al
theorem qP57 (r : qF57 (Option β)) (c0 c1 c2 c3 c4 c5 c6 c7 : D) : PT (qT57 u al r).sp u (qt57 c0 c1 c2 c3 c4 c5 c6 c7) (qp57 qw57 c0 c1 c2 c3 c4 c5 c6 c7) (qp57 r c0 c1 c2 c3 c4 c5 c6 c7) := ⟨rfl, rfl⟩
theorem qa57 (r : qF57 (Option β)) : (qT57 u al r).sp.alias = al := rfl
attribute [go_sem] qw57 qp57 qt57 qP57 qa57
abbrev qF58 (β : Type) := L_I → L_LIE → β
def qw58 (a0 : L_I) (a1 : L_LIE) : List Arg := [.c (encF 1 d_I a0), .c (encF 1 d_LIE a1)]
def qd58 (a : List Arg) := (decF g_I (aCell a 0 0), decF g_LIE (aCell a 1 0))
def qp58 {β : Type} (f : qF58 β) (c0 c1 : D) := f (decF g_I c0) (decF g_LIE c1)
abbrev qt58 (c0 c1 : D) : List Arg := [.c c0, .c c1]
def qT58 (r : qF58 (Option β)) := mkT (u2 qw58) qd58 (u2 r) u al
theorem qP58 (r : qF58 (Option β)) (c0 c1 : D) : PT (qT58 u al r).sp u (qt58 c0 c1) (qp58 qw58 c0 c1) (qp58 r c0 c1) := ⟨rfl, rfl⟩
theorem qa58 (r : qF58 (Option β)) : (qT58 u al r).sp.alias = al := rfl
attribute [go_sem] qw58 qp58 qt58 qP58 qa58
abbrev qF59 (β : Type) := Int → Int → L_II → L_LIIE → L_I → L_LIEI → L_I → Int → Int → Int → Int → Int → Int → Int → β
def qw59 (a0 a1 : Int) (a2 : L_II) (a3 : L_LIIE) (a4 : L_I) (a5 : L_LIEI) (a6 : L_I) (a7 a8 a9 a10 a11 a12 a13 : Int) : List Arg := [.agg [.int .i64 a0, .int .i64 a1, encF 2 d_II a2, encF 1 d_LIIE a3], .c (encF 1 d_I a4), .c (encF 2 d_LIEI a5), .agg [encF 1 d_I a6, .int .i64 a7, .int .i64 a8, .int .i64 a9, .int .i64 a10, .int .i64 a11, .int .i64 a12, .int .i64 a13]]
def qd59 (a : List Arg) := (dInt (aCell a 0 0), dInt (aCell a 0 1), decF g_II (aCell a 0 2), decF g_LIIE (aCell a 0 3), decF g_I (aCell a 1 0), decF g_LIEI (aCell a 2 0), decF g_I (aCell a 3 0), dInt (aCell a 3 1), dInt (aCell a 3 2), dInt (aCell a 3 3), dInt (aCell a 3 4), dInt (aCell a 3 5), dInt (aCell a 3 6), dInt (aCell a 3 7))
def qp59 {β : Type} (f : qF59 β) (c0 c1 c2 c3 c4 c5 c6 c7 c8 c9 c10 c11 c12 c13 : D) := f (dInt c0) (dInt c1) (decF g_II c2) (decF g_LIIE c3) (decF g_I c4) (decF g_LIEI c5) (decF g_I c6) (dInt c7) (dInt c8) (dInt c9) (dInt c10) (dInt c11) (dInt c12) (dInt c13)
abbrev qt59 (c0 c1 c2 c3 c4 c5 c6 c7 c8 c9 c10 c11 c12 c13 : D) : List Arg := [.agg [c0, c1, c2, c3], .c c4, .c c5, .agg [c6, c7, c8, c9, c10, c11, c12, c13]]
def qT59 (r : qF59 (Option β)) := mkT (u14 qw59) qd59 (u14 r) u al
theorem qP59 (r : qF59 (Option β)) (c0 c1 c2 c3 c4 c5 c6 c7 c8 c9 c10 c11 c12 c13 : D) : PT (qT59 u al r).sp u (qt59 c0 c1 c2 c3 c4 c5 c6 c7 c8 c9 c10 c11 c12 c13) (qp59 qw59 c0 c1 c2 c3 c4 c5 c6 c7 c8 c9 c10 c11 c12 c13) (qp59 r c0 c1 c2 c3 c4 c5 c6 c7 c8 c9 c10 c11 c12 c13) := ⟨rfl, rfl⟩
theorem qa59 (r : qF59 (Option β)) : (qT59 u al r).sp.alias = al := rfl
attribute [go_sem] qw59 qp59 qt59 qP59 qa59
def qu27 (v : L_II × Int × Int) : List RV := [.agg [.own (encF 2 d_II v.1), .d (.int .i64 v.2.1), .d (.int .i64 v.2.2)]]
attribute [go_sem] qu27
def qu28 (v : L_LIIEII) : List RV := [.c (.own (encF 3 d_LIIEII v))]
attribute [go_sem] qu28
def qu29 (v : L_I × Int × L_I × Int) : List RV := [.agg [.own (encF 1 d_I v.1), .d (.int .i64 v.2.1)], .agg [.own (encF 1 d_I v.2.2.1), .d (.int .i64 v.2.2.2)]]
attribute [go_sem] qu29
def qu30 (v : L_I × L_I × Int) : List RV := [.agg [.own (encF 1 d_I v.1), .own (encF 1 d_I v.2.1)], .c (.d (.int .i64 v.2.2))]
attribute [go_sem] qu30
def qu31 (v : L_LIELIE × Int) : List RV := [.c (.own (encF 2 d_LIELIE v.1)), .c (.d (.int .i64 v.2))]
attribute [go_sem] qu31
end
/- martensite/martensiteref03.CopySpan -/
def r117 (x0 : L_II) (x1 x2 : Int) : Option (L_II × Int × Int) :=
  if (0 + x0.length) * 16 ≤ 140737488355328 ∧ 0 + x0.length ≤ 9223372036854775807 then
   some (x0, x1, x2)
   else none
def T117 := qT48 qu27 false r117
attribute [go_sem] T117
def tb117 : Fns := lk []
theorem tb117_ok : FnsOk Tryz.prog tb117 := FnsOk.nil
section
attribute [local go_sem] Tryz.results117
theorem f117 : FnFact Tryz.prog 117 T117.sp := by
  refine valid_m ty_ok tb117_ok Tryz.func117 rfl Tryz.ntmps117 fun ⟨x0, x1, x2⟩ r hr => ⟨nL rfl, fun stop S => ?_⟩
  replace hr : r117 x0 x1 x2 = some r := hr
  unfold r117 at hr
  refine S.gx [] ?_
  exact D0 hr
end

/- martensite/martensiteref03.CopySpans -/
def b90_1 (a0 : L_LIIEII) : Bd ((List (L_II × Int × Int)) × Int) L_LIIEII := fun s1 =>
  if (decide (s1.2 < (a0.length : Int))) = true then
   if 0 ≤ s1.2 ∧ s1.2 < (a0.length : Int) then
    bindC (r117 ((a0.getD s1.2.toNat default).1) ((a0.getD s1.2.toNat default).2.1) ((a0.getD s1.2.toNat default).2.2)) fun v1 =>
     if (s1.1.length + 1) * 40 ≤ 140737488355328 ∧ s1.1.length + 1 ≤ 9223372036854775807 then
      .next (s1.1 ++ [(v1.1, v1.2.1, v1.2.2)], IntKind.i64.wrap (s1.2 + 1))
      else .out none
    else .out none
   else .out (some s1.1)
def r90 (a0 : L_LIIEII) : Option (L_LIIEII) :=
  iterC (b90_1 a0) 1000000000 ([], 0)
def T90 := qT49 qu28 true r90
attribute [go_sem] T90
def tb90 : Fns := lk [(117, T117.sp)]
theorem tb90_ok : FnsOk Tryz.prog tb90 := .cons f117 .nil
theorem tk90 : tb90 117 = some T117.sp := rfl
section
attribute [local go_sem] tk90 Tryz.results90
theorem f90 : FnFact Tryz.prog 90 T90.sp := by
  refine valid_m ty_ok tb90_ok Tryz.func90 rfl Tryz.ntmps90 fun a0 r hr => ⟨nL rfl, fun stop S => ?_⟩
  replace hr : r90 a0 = some r := hr
  unfold r90 at hr
  refine S.gx [] ?_
  refine gr ?_
  refine S.own0 3 1000300 3 rfl rfl ?_
  refine S.sees [0, 3, 4] [] [(1000300, 1000300)] ?_ (Stop.iter S (fun s1 => ⟨[(0, .c (.d (encF 3 d_LIIEII a0))), (3, .c (.own 1000300)), (4, .c (.d (.int .i64 s1.2)))], [], [(1000300, .owned (encF 3 d_LIIEII s1.1))]⟩) (b90_1 a0) (fun q => q = r) hr rfl ?_)
  · exact lf
  · intro s1 hr
    unfold b90_1 at hr
    refine S.gx [] ?_
    exact D1 (S.ss [0, 3, 4] [] [(18, 1000300)]) hr
end

/- (martensite/heat.part).boxErr -/
def b232_1 (x0 x1 : L_I) : Bd Int (Int × Int) := fun s1 =>
  if (decide (s1 < (x0.length : Int))) = true then
   if 0 ≤ s1 ∧ s1 < (x0.length : Int) then
    if 0 ≤ s1 ∧ s1 < (x1.length : Int) then
     if (decide ((x0.getD s1.toNat default) > (x1.getD s1.toNat default))) = true then
      .out (some (s1, 9))
      else .next (IntKind.i64.wrap (s1 + 1))
     else .out none
    else .out none
   else .out (some (0, 0))
def r232 (x2 x3 : Int) (x4 : L_II) (x5 : L_LIIE) (x6 : L_II) (x7 : L_LIIE) (x0 x1 : L_I) : Option (Int × Int) :=
  (r165 x2 x3 x4 x5 x6 x7 x0).bind fun v1 =>
   if (v1.2 != 0) = true then
    some (v1.1, v1.2)
    else (r165 x2 x3 x4 x5 x6 x7 x1).bind fun v2 =>
     if (v2.2 != 0) = true then
      some (v2.1, v2.2)
      else iterC (b232_1 x0 x1) 1000000000 0
def T232 := qT50 qu3 false r232
attribute [go_sem] T232
def tb232 : Fns := lk [(165, T165.sp)]
theorem tb232_ok : FnsOk Tryz.prog tb232 := .cons f165 .nil
theorem tk232 : tb232 165 = some T165.sp := rfl
section
attribute [local go_sem] tk232 Tryz.results232
theorem f232 : FnFact Tryz.prog 232 T232.sp := by
  refine valid_m ty_ok tb232_ok Tryz.func232 rfl Tryz.ntmps232 fun ⟨x2, x3, x4, x5, x6, x7, x0, x1⟩ r hr => ⟨nL rfl, fun stop S => ?_⟩
  replace hr : r232 x2 x3 x4 x5 x6 x7 x0 x1 = some r := hr
  unfold r232 at hr
  refine S.gx [] ?_
  obtain ⟨v1, hv1, hr⟩ := of_bind0 hr
  refine gb hv1 ?_
  refine iW hr (fun hc hr => D0 hr) fun hc hr => ?_
  obtain ⟨v2, hv2, hr⟩ := of_bind0 hr
  refine gb hv2 ?_
  refine iW hr (fun hc hr => D0 hr) fun hc hr => ?_
  refine gr ?_
  refine S.sees [3, 35, 36, 37] [(3, 3)] [] ?_ (Stop.iter S (fun s1 => ⟨[(3, .c (.ref 3 0)), (35, .c (.d (encF 1 d_I x0))), (36, .c (.d (.int .i64 (x0.length : Int)))), (37, .c (.d (.int .i64 s1)))], [(3, [.d (encF 1 d_I x0), .d (encF 1 d_I x1)])], []⟩) (b232_1 x0 x1) (fun q => q = r) hr rfl ?_)
  · exact lf
  · intro s1 hr
    unfold b232_1 at hr
    refine S.gx [] ?_
    exact D1 (S.ss [3, 35, 36, 37] [(3, 3)] []) hr
end

/- martensite/heat.openBox -/
def r178 (x0 x1 : Int) (x2 : L_II) (x3 : L_LIIE) (x4 x5 : L_I) : Option (Int × Int × L_II × L_LIIE × L_II × L_LIIE × Int) :=
  (r98 x0 x1 x2 x3).bind fun v1 =>
   if (v1.2.2.2.2.2.2 == 0) = true then
    (r232 v1.1 v1.2.1 v1.2.2.1 v1.2.2.2.1 v1.2.2.2.2.1 v1.2.2.2.2.2.1 x4 x5).bind fun v2 =>
     some (v1.1, v1.2.1, v1.2.2.1, v1.2.2.2.1, v1.2.2.2.2.1, v1.2.2.2.2.2.1, v2.2)
    else some (v1.1, v1.2.1, v1.2.2.1, v1.2.2.2.1, v1.2.2.2.2.1, v1.2.2.2.2.2.1, v1.2.2.2.2.2.2)
def T178 := qT51 qu7 true r178
attribute [go_sem] T178
def tb178 : Fns := lk [(98, T98.sp), (232, T232.sp)]
theorem tb178_ok : FnsOk Tryz.prog tb178 := .cons f98 (.cons f232 .nil)
theorem tk178 : tb178 98 = some T98.sp ∧ tb178 232 = some T232.sp := ⟨rfl, rfl⟩
section
attribute [local go_sem] tk178 Tryz.results178
theorem f178 : FnFact Tryz.prog 178 T178.sp := by
  refine valid_m ty_ok tb178_ok Tryz.func178 rfl Tryz.ntmps178 fun ⟨x0, x1, x2, x3, x4, x5⟩ r hr => ⟨nL rfl, fun stop S => ?_⟩
  replace hr : r178 x0 x1 x2 x3 x4 x5 = some r := hr
  unfold r178 at hr
  refine S.gx [] ?_
  exact D0 hr
end

/- (martensite/heat.part).spanErr -/
def b198_1 (x1 x2 : Int) (x3 : L_II) (x4 : L_LIIE) (x5 : L_II) (x6 : L_LIIE) (x0 : L_II) (x7 x8 : Int) : Bd (Int × Int) Int := fun s1 =>
  if (decide (s1.2 < (x0.length : Int))) = true then
   if 0 ≤ s1.2 ∧ s1.2 < (x0.length : Int) then
    bindC (r167 ((x0.getD s1.2.toNat default).1)) fun v2 =>
     if v2 = true → (r167 ((x0.getD s1.2.toNat default).2)).isSome = true then
      bindC (r83 (v2 && ((r167 ((x0.getD s1.2.toNat default).2)).getD default)) 2) fun v3 =>
       bindC (r83 (decide (((x0.getD s1.2.toNat default).1) ≤ ((x0.getD s1.2.toNat default).2))) 9) fun v4 =>
        bindC (r80 [s1.1, v3, v4]) fun v5 =>
         .next (v5, IntKind.i64.wrap (s1.2 + 1))
      else .out none
    else .out none
   else .out ((r168 x1 x2 x3 x4 x5 x6 x7).bind fun v8 =>
    (r168 x1 x2 x3 x4 x5 x6 x8).bind fun v9 =>
     (r83 (decide (x7 ≤ x8)) 9).bind fun v10 =>
      (r80 [s1.1, v8, v9, v10]).bind fun v11 =>
       some v11)
def r198 (x1 x2 : Int) (x3 : L_II) (x4 : L_LIIE) (x5 : L_II) (x6 : L_LIIE) (x0 : L_II) (x7 x8 : Int) : Option (Int) :=
  (r83 ((x0.length : Int) == x1) 10).bind fun v1 =>
   iterC (b198_1 x1 x2 x3 x4 x5 x6 x0 x7 x8) 1000000000 (v1, 0)
def T198 := qT52 qu2 false r198
attribute [go_sem] T198
def tb198 : Fns := lk [(80, T80.sp), (83, T83.sp), (167, T167.sp), (168, T168.sp)]
theorem tb198_ok : FnsOk Tryz.prog tb198 := .cons f80 (.cons f83 (.cons f167 (.cons f168 .nil)))
theorem tk198 : tb198 80 = some T80.sp ∧ tb198 83 = some T83.sp ∧ tb198 167 = some T167.sp ∧ tb198 168 = some T168.sp := ⟨rfl, rfl, rfl, rfl⟩
section
attribute [local go_sem] tk198 Tryz.results198
theorem f198 : FnFact Tryz.prog 198 T198.sp := by
  refine valid_m ty_ok tb198_ok Tryz.func198 rfl Tryz.ntmps198 fun ⟨x1, x2, x3, x4, x5, x6, x0, x7, x8⟩ r hr => ⟨nL rfl, fun stop S => ?_⟩
  replace hr : r198 x1 x2 x3 x4 x5 x6 x0 x7 x8 = some r := hr
  unfold r198 at hr
  refine S.gx [] ?_
  obtain ⟨v1, hv1, hr⟩ := of_bind0 hr
  refine gb hv1 ?_
  refine S.sees [2, 3, 5, 17, 18, 19] [(2, 2), (3, 3)] [] ?_ (Stop.iter S (fun s1 => ⟨[(2, .c (.ref 2 0)), (3, .c (.ref 3 0)), (5, .c (.d (.int .i64 s1.1))), (17, .c (.d (encF 2 d_II x0))), (18, .c (.d (.int .i64 (x0.length : Int)))), (19, .c (.d (.int .i64 s1.2)))], [(2, [.d (.int .i64 x1), .d (.int .i64 x2), .d (encF 2 d_II x3), .d (encF 1 d_LIIE x4), .d (encF 2 d_II x5), .d (encF 1 d_LIIE x6)]), (3, [.d (encF 2 d_II x0), .d (.int .i64 x7), .d (.int .i64 x8)])], []⟩) (b198_1 x1 x2 x3 x4 x5 x6 x0 x7 x8) (fun q => q = r) hr rfl ?_)
  · exact lf
  · intro s1 hr
    unfold b198_1 at hr
    refine S.gx [] ?_
    refine gr ?_
    refine iW1 hr (fun hc hr => ?_) fun hc hr => D0 hr
    obtain ⟨hg6, hr⟩ := of_guard1 hr
    obtain ⟨v2, hv2, hr⟩ := of_bind1 hr
    obtain ⟨hg7, hr⟩ := of_guard1 hr
    obtain ⟨v3, hv3, hr⟩ := of_bind1 hr
    obtain ⟨v4, hv4, hr⟩ := of_bind1 hr
    obtain ⟨v5, hv5, hr⟩ := of_bind1 hr
    try simp only [hv2, hv3, hv4, hv5, Option.getD_some, Option.isSome_some, true_and, and_assoc]
    repeat (first | refine gG hg7 ?_ | refine gA ?_ | refine gB ?_)
    exact D1 (S.ss [2, 3, 5, 17, 18, 19] [(2, 2), (3, 3)] []) hr
end

/- (martensite/heat.part).spansErr -/
def b179_1 (x0 x1 : Int) (x2 : L_II) (x3 : L_LIIE) (x4 : L_II) (x5 : L_LIIE) (a1 : L_LIIEII) : Bd (Int × Int) Int := fun s1 =>
  if (decide (s1.2 < (a1.length : Int))) = true then
   if 0 ≤ s1.2 ∧ s1.2 < (a1.length : Int) then
    bindC (r198 x0 x1 x2 x3 x4 x5 ((a1.getD s1.2.toNat default).1) ((a1.getD s1.2.toNat default).2.1) ((a1.getD s1.2.toNat default).2.2)) fun v2 =>
     bindC (r80 [s1.1, v2]) fun v3 =>
      .next (v3, IntKind.i64.wrap (s1.2 + 1))
    else .out none
   else .out (some s1.1)
def r179 (x0 x1 : Int) (x2 : L_II) (x3 : L_LIIE) (x4 : L_II) (x5 : L_LIIE) (a1 : L_LIIEII) : Option (Int) :=
  (r83 (decide ((a1.length : Int) ≤ 200)) 8).bind fun v1 =>
   iterC (b179_1 x0 x1 x2 x3 x4 x5 a1) 1000000000 (v1, 0)
def T179 := qT53 qu2 false r179
attribute [go_sem] T179
def tb179 : Fns := lk [(80, T80.sp), (83, T83.sp), (198, T198.sp)]
theorem tb179_ok : FnsOk Tryz.prog tb179 := .cons f80 (.cons f83 (.cons f198 .nil))
theorem tk179 : tb179 80 = some T80.sp ∧ tb179 83 = some T83.sp ∧ tb179 198 = some T198.sp := ⟨rfl, rfl, rfl⟩
section
attribute [local go_sem] tk179 Tryz.results179
theorem f179 : FnFact Tryz.prog 179 T179.sp := by
  refine valid_m ty_ok tb179_ok Tryz.func179 rfl Tryz.ntmps179 fun ⟨x0, x1, x2, x3, x4, x5, a1⟩ r hr => ⟨nL rfl, fun stop S => ?_⟩
  replace hr : r179 x0 x1 x2 x3 x4 x5 a1 = some r := hr
  unfold r179 at hr
  refine S.gx [] ?_
  obtain ⟨v1, hv1, hr⟩ := of_bind0 hr
  refine gb hv1 ?_
  refine S.sees [2, 5, 12, 13, 14] [(2, 2)] [] ?_ (Stop.iter S (fun s1 => ⟨[(2, .c (.ref 2 0)), (5, .c (.d (.int .i64 s1.1))), (12, .c (.d (encF 3 d_LIIEII a1))), (13, .c (.d (.int .i64 (a1.length : Int)))), (14, .c (.d (.int .i64 s1.2)))], [(2, [.d (.int .i64 x0), .d (.int .i64 x1), .d (encF 2 d_II x2), .d (encF 1 d_LIIE x3), .d (encF 2 d_II x4), .d (encF 1 d_LIIE x5)])], []⟩) (b179_1 x0 x1 x2 x3 x4 x5 a1) (fun q => q = r) hr rfl ?_)
  · exact lf
  · intro s1 hr
    unfold b179_1 at hr
    refine S.gx [] ?_
    exact D1 (S.ss [2, 5, 12, 13, 14] [(2, 2)] []) hr
end

/- martensite/heat.drives -/
def b245_1 (x0 : L_II) (x1 x2 : Int) : Bd (Int × (List (Int)) × (List (Int))) (L_I × Int × L_I × Int) := fun s1 =>
  if (decide (s1.1 < (x0.length : Int))) = true then
   if 0 ≤ s1.1 ∧ s1.1 < (x0.length : Int) then
    if (s1.2.1.length + 1) * 8 ≤ 140737488355328 ∧ s1.2.1.length + 1 ≤ 9223372036854775807 then
     if (s1.2.2.length + 1) * 8 ≤ 140737488355328 ∧ s1.2.2.length + 1 ≤ 9223372036854775807 then
      .next (IntKind.i64.wrap (s1.1 + 1), s1.2.1 ++ [(x0.getD s1.1.toNat default).1], s1.2.2 ++ [(x0.getD s1.1.toNat default).2])
      else .out none
     else .out none
    else .out none
   else .out (some (s1.2.1, x2, s1.2.2, x1))
def r245 (x0 : L_II) (x1 x2 : Int) : Option (L_I × Int × L_I × Int) :=
  iterC (b245_1 x0 x1 x2) 1000000000 (0, [], [])
def T245 := qT48 qu29 false r245
attribute [go_sem] T245
def tb245 : Fns := lk []
theorem tb245_ok : FnsOk Tryz.prog tb245 := FnsOk.nil
section
attribute [local go_sem] Tryz.results245
theorem f245 : FnFact Tryz.prog 245 T245.sp := by
  refine valid_m ty_ok tb245_ok Tryz.func245 rfl Tryz.ntmps245 fun ⟨x0, x1, x2⟩ r hr => ⟨nL rfl, fun stop S => ?_⟩
  replace hr : r245 x0 x1 x2 = some r := hr
  unfold r245 at hr
  refine S.gx [] ?_
  refine gr ?_
  refine S.own0b 2 0 2000200 1 rfl rfl (nL rfl) rfl ?_
  refine S.own0b 3 0 2000300 1 rfl rfl (nL rfl) rfl ?_
  refine S.sees [2, 3, 15, 16, 17] [(2, 2), (3, 3)] [(2000200, 2000200), (2000300, 2000300)] ?_ (Stop.iter S (fun s1 => ⟨[(2, .c (.ref 2 0)), (3, .c (.ref 3 0)), (15, .c (.d (encF 2 d_II x0))), (16, .c (.d (.int .i64 (x0.length : Int)))), (17, .c (.d (.int .i64 s1.1)))], [(2, [.own 2000200, .d (.int .i64 x2)]), (3, [.own 2000300, .d (.int .i64 x1)])], [(2000200, .owned (encF 1 d_I s1.2.1)), (2000300, .owned (encF 1 d_I s1.2.2))]⟩) (b245_1 x0 x1 x2) (fun q => q = r) hr rfl ?_)
  · exact lf
  · intro s1 hr
    unfold b245_1 at hr
    refine S.gx [] ?_
    exact D1 (S.ss [2, 3, 15, 16, 17] [(2, 2), (3, 3)] [(26, 2000200), (32, 2000300)]) hr
end

/- (martensite/heat.part).boxStep -/
def r199 (x0 x1 : Int) (x2 : L_II) (x3 : L_LIIE) (x4 : L_II) (x5 : L_LIIE) (x6 x7 : L_I) (x8 : L_II) (x9 x10 : Int) : Option (L_I × L_I × Int) :=
  (r245 x8 x9 x10).bind fun v1 =>
   (r85 x0 x1 x2 x3 x4 x5 x6 v1.1 v1.2.1).bind fun v2 =>
    (r85 x0 x1 x2 x3 x4 x5 x7 v1.2.2.1 v1.2.2.2).bind fun v3 =>
     (r80 [v2.2.2, v3.2.2]).bind fun v4 =>
      if (v4 != 0) = true then
       some ([], [], v4)
       else some (v2.1, v3.1, 0)
def T199 := qT54 qu30 false r199
attribute [go_sem] T199
def tb199 : Fns := lk [(80, T80.sp), (85, T85.sp), (245, T245.sp)]
theorem tb199_ok : FnsOk Tryz.prog tb199 := .cons f80 (.cons f85 (.cons f245 .nil))
theorem tk199 : tb199 80 = some T80.sp ∧ tb199 85 = some T85.sp ∧ tb199 245 = some T245.sp := ⟨rfl, rfl, rfl⟩
section
attribute [local go_sem] tk199 Tryz.results199
theorem f199 : FnFact Tryz.prog 199 T199.sp := by
  refine valid_m ty_ok tb199_ok Tryz.func199 rfl Tryz.ntmps199 fun ⟨x0, x1, x2, x3, x4, x5, x6, x7, x8, x9, x10⟩ r hr => ⟨nL rfl, fun stop S => ?_⟩
  replace hr : r199 x0 x1 x2 x3 x4 x5 x6 x7 x8 x9 x10 = some r := hr
  unfold r199 at hr
  refine S.gx [4] ?_
  obtain ⟨v1, hv1, hr⟩ := of_bind0 hr
  obtain ⟨v2, hv2, hr⟩ := of_bind0 hr
  obtain ⟨v3, hv3, hr⟩ := of_bind0 hr
  refine gb hv1 ?_
  refine gb hv2 ?_
  refine gb hv3 ?_
  refine S.prune [6, 10, 12, 13, 15] ?_
  refine S.gx [] ?_
  exact D0 hr
end

/- (martensite/heat.part).boxes -/
def b180_1 (x0 x1 : Int) (x2 : L_II) (x3 : L_LIIE) (x4 : L_II) (x5 : L_LIIE) (a2 : L_LIIEII) : Bd ((List (L_I × L_I)) × Int × L_I × L_I) (L_LIELIE × Int) := fun s1 =>
  if (decide (s1.2.1 < (a2.length : Int))) = true then
   if 0 ≤ s1.2.1 ∧ s1.2.1 < (a2.length : Int) then
    bindC (r199 x0 x1 x2 x3 x4 x5 s1.2.2.1 s1.2.2.2 ((a2.getD s1.2.1.toNat default).1) ((a2.getD s1.2.1.toNat default).2.1) ((a2.getD s1.2.1.toNat default).2.2)) fun v1 =>
     if (v1.2.2 != 0) = true then
      .out (some ([], v1.2.2))
      else if (s1.1.length + 1) * 48 ≤ 140737488355328 ∧ s1.1.length + 1 ≤ 9223372036854775807 then
       .next (s1.1 ++ [(v1.1, v1.2.1)], IntKind.i64.wrap (s1.2.1 + 1), v1.1, v1.2.1)
       else .out none
    else .out none
   else .out (some (s1.1, 0))
def r180 (x0 x1 : Int) (x2 : L_II) (x3 : L_LIIE) (x4 : L_II) (x5 : L_LIIE) (x6 x7 : L_I) (a2 : L_LIIEII) : Option (L_LIELIE × Int) :=
  iterC (b180_1 x0 x1 x2 x3 x4 x5 a2) 1000000000 ([], 0, x6, x7)
def T180 := qT55 qu31 true r180
attribute [go_sem] T180
def tb180 : Fns := lk [(199, T199.sp)]
theorem tb180_ok : FnsOk Tryz.prog tb180 := .cons f199 .nil
theorem tk180 : tb180 199 = some T199.sp := rfl
section
attribute [local go_sem] tk180 Tryz.results180
theorem f180 : FnFact Tryz.prog 180 T180.sp := by
  refine valid_m ty_ok tb180_ok Tryz.func180 rfl Tryz.ntmps180 fun ⟨x0, x1, x2, x3, x4, x5, x6, x7, a2⟩ r hr => ⟨nL rfl, fun stop S => ?_⟩
  replace hr : r180 x0 x1 x2 x3 x4 x5 x6 x7 a2 = some r := hr
  unfold r180 at hr
  refine S.gx [] ?_
  refine gr ?_
  refine S.own0 8 1000800 2 rfl rfl ?_
  refine S.sees [3, 4, 8, 13, 14, 15] [(3, 3), (4, 4)] [(1000800, 1000800)] ?_ (Stop.iter S (fun s1 => ⟨[(3, .c (.ref 3 0)), (4, .c (.ref 4 0)), (8, .c (.own 1000800)), (13, .c (.d (encF 3 d_LIIEII a2))), (14, .c (.d (.int .i64 (a2.length : Int)))), (15, .c (.d (.int .i64 s1.2.1)))], [(3, [.d (.int .i64 x0), .d (.int .i64 x1), .d (encF 2 d_II x2), .d (encF 1 d_LIIE x3), .d (encF 2 d_II x4), .d (encF 1 d_LIIE x5)]), (4, [.d (encF 1 d_I s1.2.2.1), .d (encF 1 d_I s1.2.2.2)])], [(1000800, .owned (encF 2 d_LIELIE s1.1))]⟩) (b180_1 x0 x1 x2 x3 x4 x5 a2) (fun q => q = r) hr rfl ?_)
  · exact lf
  · intro s1 hr
    unfold b180_1 at hr
    refine S.gx [] ?_
    exact D1 (S.ss [3, 4, 8, 13, 14, 15] [(3, 3), (4, 4)] [(33, 1000800)]) hr
end

/- martensite/heat.BoxRun -/
def r88 (x2 x3 : Int) (x4 : L_II) (x5 : L_LIIE) (x0 x1 : L_I) (a2 : L_LIIEII) : Option (L_LIELIE × Int) :=
  (r178 x2 x3 x4 x5 x0 x1).bind fun v1 =>
   if (v1.2.2.2.2.2.2 == 0) = true then
    (r179 v1.1 v1.2.1 v1.2.2.1 v1.2.2.2.1 v1.2.2.2.2.1 v1.2.2.2.2.2.1 a2).bind fun v2 =>
     if (v2 != 0) = true then
      some ([], v2)
      else (r180 v1.1 v1.2.1 v1.2.2.1 v1.2.2.2.1 v1.2.2.2.2.1 v1.2.2.2.2.2.1 x0 x1 a2).bind fun v3 =>
       some (v3.1, v3.2)
    else if (v1.2.2.2.2.2.2 != 0) = true then
     some ([], v1.2.2.2.2.2.2)
     else (r180 v1.1 v1.2.1 v1.2.2.1 v1.2.2.2.1 v1.2.2.2.2.1 v1.2.2.2.2.2.1 x0 x1 a2).bind fun v4 =>
      some (v4.1, v4.2)
def T88 := qT56 qu31 true r88
attribute [go_sem] T88
def tb88 : Fns := lk [(178, T178.sp), (179, T179.sp), (180, T180.sp)]
theorem tb88_ok : FnsOk Tryz.prog tb88 := .cons f178 (.cons f179 (.cons f180 .nil))
theorem tk88 : tb88 178 = some T178.sp ∧ tb88 179 = some T179.sp ∧ tb88 180 = some T180.sp := ⟨rfl, rfl, rfl⟩
section
attribute [local go_sem] tk88 Tryz.results88
theorem f88 : FnFact Tryz.prog 88 T88.sp := by
  refine valid_m ty_ok tb88_ok Tryz.func88 rfl Tryz.ntmps88 fun ⟨x2, x3, x4, x5, x0, x1, a2⟩ r hr => ⟨nL rfl, fun stop S => ?_⟩
  replace hr : r88 x2 x3 x4 x5 x0 x1 a2 = some r := hr
  unfold r88 at hr
  refine S.gx [] ?_
  exact D0 hr
end

/- martensite/heat.openHistory -/
def r181 (x0 x1 : Int) (x2 : L_II) (x3 : L_LIIE) (x4 x5 : L_I) (x6 : L_LIIEII) (x7 : Int) : Option (Int × Int × L_II × L_LIIE × L_II × L_LIIE × Int) :=
  (r178 x0 x1 x2 x3 x4 x5).bind fun v1 =>
   if (v1.2.2.2.2.2.2 == 0) = true then
    (r179 v1.1 v1.2.1 v1.2.2.1 v1.2.2.2.1 v1.2.2.2.2.1 v1.2.2.2.2.2.1 x6).bind fun v2 =>
     (r82 x7).bind fun v3 =>
      (r80 [v2, v3]).bind fun v4 =>
       some (v1.1, v1.2.1, v1.2.2.1, v1.2.2.2.1, v1.2.2.2.2.1, v1.2.2.2.2.2.1, v4)
    else some (v1.1, v1.2.1, v1.2.2.1, v1.2.2.2.1, v1.2.2.2.2.1, v1.2.2.2.2.2.1, v1.2.2.2.2.2.2)
def T181 := qT57 qu7 true r181
attribute [go_sem] T181
def tb181 : Fns := lk [(80, T80.sp), (82, T82.sp), (178, T178.sp), (179, T179.sp)]
theorem tb181_ok : FnsOk Tryz.prog tb181 := .cons f80 (.cons f82 (.cons f178 (.cons f179 .nil)))
theorem tk181 : tb181 80 = some T80.sp ∧ tb181 82 = some T82.sp ∧ tb181 178 = some T178.sp ∧ tb181 179 = some T179.sp := ⟨rfl, rfl, rfl, rfl⟩
section
attribute [local go_sem] tk181 Tryz.results181
theorem f181 : FnFact Tryz.prog 181 T181.sp := by
  refine valid_m ty_ok tb181_ok Tryz.func181 rfl Tryz.ntmps181 fun ⟨x0, x1, x2, x3, x4, x5, x6, x7⟩ r hr => ⟨nL rfl, fun stop S => ?_⟩
  replace hr : r181 x0 x1 x2 x3 x4 x5 x6 x7 = some r := hr
  unfold r181 at hr
  refine S.gx [] ?_
  exact D0 hr
end

/- martensite/heat.peaks -/
def b182_2 (a1 : L_LIE) (s1 : Int × (List (Int))) : Bd (Int × (List (Int))) (Ctl (Int × (List (Int))) (L_I)) := fun s2 =>
  if (decide (s2.1 < ((a1.getD s1.1.toNat default).length : Int))) = true then
   if 0 ≤ s2.1 ∧ s2.1 < ((a1.getD s1.1.toNat default).length : Int) then
    if 0 ≤ s2.1 ∧ s2.1 < (s2.2.length : Int) then
     if 0 ≤ s2.1 ∧ s2.1 < (s2.2.length : Int) then
      .next (IntKind.i64.wrap (s2.1 + 1), s2.2.set s2.1.toNat (if (s2.2.getD s2.1.toNat default) < ((a1.getD s1.1.toNat default).getD s2.1.toNat default) then ((a1.getD s1.1.toNat default).getD s2.1.toNat default) else (s2.2.getD s2.1.toNat default)))
      else .out none
     else .out none
    else .out none
   else .out (some (.next (IntKind.i64.wrap (s1.1 + 1), s2.2)))
def b182_1 (a1 : L_LIE) : Bd (Int × (List (Int))) L_I := fun s1 =>
  if (decide (s1.1 < (a1.length : Int))) = true then
   if 0 ≤ s1.1 ∧ s1.1 < (a1.length : Int) then
    (iterC (b182_2 a1 s1) 1000000000 (0, s1.2)).getD (.out none)
    else .out none
   else .out (some s1.2)
def r182 (a0 : L_I) (a1 : L_LIE) : Option (L_I) :=
  (r173 a0).bind fun v1 =>
   iterC (b182_1 a1) 1000000000 (0, v1)
def T182 := qT58 qu11 false r182
attribute [go_sem] T182
def tb182 : Fns := lk [(173, T173.sp)]
theorem tb182_ok : FnsOk Tryz.prog tb182 := .cons f173 .nil
theorem tk182 : tb182 173 = some T173.sp := rfl
section
attribute [local go_sem] tk182 Tryz.results182
theorem f182 : FnFact Tryz.prog 182 T182.sp := by
  refine valid_m ty_ok tb182_ok Tryz.func182 rfl Tryz.ntmps182 fun ⟨a0, a1⟩ r hr => ⟨nL rfl, fun stop S => ?_⟩
  replace hr : r182 a0 a1 = some r := hr
  unfold r182 at hr
  refine S.gx [] ?_
  obtain ⟨v1, hv1, hr⟩ := of_bind0 hr
  refine gb hv1 ?_
  refine S.sees [5, 12, 13, 14] [] [(11, 11)] ?_ (Stop.iter S (fun s1 => ⟨[(5, .c (.own 11)), (12, .c (.d (encF 1 d_LIE a1))), (13, .c (.d (.int .i64 (a1.length : Int)))), (14, .c (.d (.int .i64 s1.1)))], [], [(11, .owned (encF 1 d_I s1.2))]⟩) (b182_1 a1) (fun q => q = r) hr rfl ?_)
  · exact lf
  · intro s1 hr
    unfold b182_1 at hr
    refine S.gx [] ?_
    refine gr ?_
    refine iW1 hr (fun hc hr => ?_) fun hc hr => D0 hr
    obtain ⟨hg5, hr⟩ := of_guard1 hr
    refine gr ?_
    obtain ⟨q2, hq, hr⟩ := of_iter1 hr
    refine S.sees [5, 12, 13, 14, 18, 19, 20] [] [(11, 11)] ?_ (Stop.iter S (fun s2 => ⟨[(5, .c (.own 11)), (12, .c (.d (encF 1 d_LIE a1))), (13, .c (.d (.int .i64 (a1.length : Int)))), (14, .c (.d (.int .i64 s1.1))), (18, .c (.d (encF 1 d_I (a1.getD s1.1.toNat default)))), (19, .c (.d (.int .i64 ((a1.getD s1.1.toNat default).length : Int)))), (20, .c (.d (.int .i64 s2.1)))], [], [(11, .owned (encF 1 d_I s2.2))]⟩) (b182_2 a1 s1) _ hq hr ?_)
    · exact lf
    · intro s2 hr
      unfold b182_2 at hr
      refine S.gx [] ?_
      refine gr ?_
      refine iW1 hr (fun hc hr => D1 (S.ss [5, 12, 13, 14, 18, 19, 20] [] [(11, 11)]) hr) fun hc hr => ?_
      refine gr ?_
      replace hr := goodC_out hr
      exact D1 (S.ss [5, 12, 13, 14] [] [(11, 11)]) hr
end

/- martensite/heat.DepthsOf -/
def b91_1 (x0 x1 : L_I) (x2 : Int) (v1 : Int × Int × L_II × L_LIIE × L_II × L_LIIE × Int) (v2 : L_LIELIE × Int) : Bd ((List (L_I)) × (List (L_I)) × Int) (Int × Int × Int) := fun s1 =>
  if (decide (s1.2.2 < (v2.1.length : Int))) = true then
   if 0 ≤ s1.2.2 ∧ s1.2.2 < (v2.1.length : Int) then
    if (s1.1.length + 1) * 24 ≤ 140737488355328 ∧ s1.1.length + 1 ≤ 9223372036854775807 then
     if (s1.2.1.length + 1) * 24 ≤ 140737488355328 ∧ s1.2.1.length + 1 ≤ 9223372036854775807 then
      .next (s1.1 ++ [(v2.1.getD s1.2.2.toNat default).1], s1.2.1 ++ [(v2.1.getD s1.2.2.toNat default).2], IntKind.i64.wrap (s1.2.2 + 1))
      else .out none
     else .out none
    else .out none
   else .out ((r182 x0 s1.1).bind fun v6 =>
    (r84 v1.1 v1.2.1 v1.2.2.1 v1.2.2.2.1 v1.2.2.2.2.1 v1.2.2.2.2.2.1 v6 x2).bind fun v7 =>
     (r182 x1 s1.2.1).bind fun v8 =>
      (r84 v1.1 v1.2.1 v1.2.2.1 v1.2.2.2.1 v1.2.2.2.2.1 v1.2.2.2.2.2.1 v8 x2).bind fun v9 =>
       some (v7, v9, 0))
def r91 (x4 x5 : Int) (x6 : L_II) (x7 : L_LIIE) (x0 x1 : L_I) (x3 : L_LIIEII) (x2 : Int) : Option (Int × Int × Int) :=
  (r181 x4 x5 x6 x7 x0 x1 x3 x2).bind fun v1 =>
   if (v1.2.2.2.2.2.2 != 0) = true then
    some (0, 0, v1.2.2.2.2.2.2)
    else (r180 v1.1 v1.2.1 v1.2.2.1 v1.2.2.2.1 v1.2.2.2.2.1 v1.2.2.2.2.2.1 x0 x1 x3).bind fun v2 =>
     if (v2.2 != 0) = true then
      some (0, 0, v2.2)
      else iterC (b91_1 x0 x1 x2 v1 v2) 1000000000 ([], [], 0)
def T91 := qT57 qu12 false r91
attribute [go_sem] T91
def tb91 : Fns := lk [(84, T84.sp), (180, T180.sp), (181, T181.sp), (182, T182.sp)]
theorem tb91_ok : FnsOk Tryz.prog tb91 := .cons f84 (.cons f180 (.cons f181 (.cons f182 .nil)))
theorem tk91 : tb91 84 = some T84.sp ∧ tb91 180 = some T180.sp ∧ tb91 181 = some T181.sp ∧ tb91 182 = some T182.sp := ⟨rfl, rfl, rfl, rfl⟩
section
attribute [local go_sem] tk91 Tryz.results91
theorem f91 : FnFact Tryz.prog 91 T91.sp := by
  refine valid_m ty_ok tb91_ok Tryz.func91 rfl Tryz.ntmps91 fun ⟨x4, x5, x6, x7, x0, x1, x3, x2⟩ r hr => ⟨nL rfl, fun stop S => ?_⟩
  replace hr : r91 x4 x5 x6 x7 x0 x1 x3 x2 = some r := hr
  unfold r91 at hr
  refine S.gx [] ?_
  obtain ⟨v1, hv1, hr⟩ := of_bind0 hr
  refine gb hv1 ?_
  refine iW hr (fun hc hr => D0 hr) fun hc hr => ?_
  obtain ⟨v2, hv2, hr⟩ := of_bind0 hr
  refine gb hv2 ?_
  refine iW hr (fun hc hr => D0 hr) fun hc hr => ?_
  refine gr ?_
  refine S.own0 11 1001100 1 rfl rfl ?_
  refine S.own0 12 1001200 1 rfl rfl ?_
  refine S.sees [4, 5, 6, 8, 11, 12, 38, 39, 40] [(4, 4), (5, 5), (6, 6), (8, 8)] [(1001100, 1001100), (1001200, 1001200), (31, 31), (19, 19), (10019, 10019)] ?_ (Stop.iter S (fun s1 => ⟨[(4, .c (.ref 4 0)), (5, .c (.ref 5 0)), (6, .c (.ref 6 0)), (8, .c (.ref 8 0)), (11, .c (.own 1001100)), (12, .c (.own 1001200)), (38, .c (.own 31)), (39, .c (.d (.int .i64 (v2.1.length : Int)))), (40, .c (.d (.int .i64 s1.2.2)))], [(4, [.d (encF 1 d_I x0), .d (encF 1 d_I x1)]), (5, [.d (encF 3 d_LIIEII x3), .d (.int .i64 x2)]), (6, [.d (.int .i64 0), .d (.int .i64 0)]), (8, [.d (.int .i64 v1.1), .d (.int .i64 v1.2.1), .d (encF 2 d_II v1.2.2.1), .d (encF 1 d_LIIE v1.2.2.2.1), .own 19, .own 10019])], [(1001100, .owned (encF 1 d_LIE s1.1)), (1001200, .owned (encF 1 d_LIE s1.2.1)), (31, .owned (encF 2 d_LIELIE v2.1)), (19, .shared (encF 2 d_II v1.2.2.2.2.1)), (10019, .shared (encF 1 d_LIIE v1.2.2.2.2.2.1))]⟩) (b91_1 x0 x1 x2 v1 v2) (fun q => q = r) hr rfl ?_)
  · exact lf
  · intro s1 hr
    unfold b91_1 at hr
    refine S.gx [] ?_
    exact D1 (S.ss [4, 5, 6, 8, 11, 12, 38, 39, 40] [(4, 4), (5, 5), (6, 6), (8, 8)] [(48, 1001100), (53, 1001200), (31, 31), (19, 19), (10019, 10019)]) hr
end

/- martensite/martensitetop.heatAround -/
def b24_3 (a2 : L_LIEI) (s2 : (List (L_II × Int × Int)) × Int) : Bd (Int × (List (Int × Int))) (Ctl ((List (L_II × Int × Int)) × Int) (Bool)) := fun s3 =>
  if 0 ≤ s2.2 ∧ s2.2 < (a2.length : Int) then
   if (decide (s3.1 < (((a2.getD s2.2.toNat default).1).length : Int))) = true then
    if 0 ≤ s2.2 ∧ s2.2 < (a2.length : Int) then
     if 0 ≤ s3.1 ∧ s3.1 < (((a2.getD s2.2.toNat default).1).length : Int) then
      if 0 ≤ s2.2 ∧ s2.2 < (a2.length : Int) then
       if 0 ≤ s3.1 ∧ s3.1 < (((a2.getD s2.2.toNat default).1).length : Int) then
        if (s3.2.length + 1) * 16 ≤ 140737488355328 ∧ s3.2.length + 1 ≤ 9223372036854775807 then
         .next (IntKind.i64.wrap (s3.1 + 1), s3.2 ++ [((((a2.getD s2.2.toNat default).1).getD s3.1.toNat default), (((a2.getD s2.2.toNat default).1).getD s3.1.toNat default))])
         else .out none
        else .out none
       else .out none
      else .out none
     else .out none
    else .out (some (if (s2.1.length + 1) * 40 ≤ 140737488355328 ∧ s2.1.length + 1 ≤ 9223372036854775807 then
     .next (s2.1 ++ [(s3.2, (a2.getD s2.2.toNat default).2, (a2.getD s2.2.toNat default).2)], IntKind.i64.wrap (s2.2 + 1))
     else .out none))
   else .out none
def b24_4 (v16 : L_LIELIE × Int) (v19 : L_LIE × Int) : Bd Int Bool := fun s4 =>
  if (decide (s4 < (v19.1.length : Int))) = true then
   if 0 ≤ s4 ∧ s4 < (v16.1.length : Int) then
    if 0 ≤ s4 ∧ s4 < (v19.1.length : Int) then
     bindC (r64 ((v16.1.getD s4.toNat default).1) (v19.1.getD s4.toNat default)) fun v21 =>
      if (!v21) = true then
       .out (some false)
       else .next (IntKind.i64.wrap (s4 + 1))
     else .out none
    else .out none
   else .out (some true)
def b24_2 (x1 x2 : Int) (x0 : L_II) (x3 : L_LIIE) (a1 : L_I) (a2 : L_LIEI) (x4 x5 : Int) (v1 : L_I) (s1 : Int × (List (Int))) : Bd ((List (L_II × Int × Int)) × Int) Bool := fun s2 =>
  if (decide (s2.2 < (a2.length : Int))) = true then
   if 0 ≤ s2.2 ∧ s2.2 < (a2.length : Int) then
    if 0 ≤ s2.2 ∧ s2.2 < (a2.length : Int) then
     (iterC (b24_3 a2 s2) 1000000000 (0, [])).getD (.out none)
     else .out none
    else .out none
   else .out ((r14 x1 x2 x0 x3).bind fun v13 =>
    (r89 v1 s1.2).bind fun v14 =>
     (r90 s2.1).bind fun v15 =>
      (r88 v13.1 v13.2.1 v13.2.2.1 v13.2.2.2 v14.1 v14.2 v15).bind fun v16 =>
       (r17 a1).bind fun v17 =>
        (r21 a2).bind fun v18 =>
         (r22 v13.1 v13.2.1 v13.2.2.1 v13.2.2.2 v17 v18).bind fun v19 =>
          (r91 v13.1 v13.2.1 v13.2.2.1 v13.2.2.2 v14.1 v14.2 v15 x4).bind fun v20 =>
           if (((v19.2 != 0) || (v16.2 != v20.2.2)) || ((v16.2 != 0) && (v16.2 != 22))) = true then
            some false
            else if (v16.2 != 0) = true then
             some true
             else if ((((v16.1.length : Int) != (v19.1.length : Int)) || (decide (v20.1 < x5))) || (decide (v20.2.1 < v20.1))) = true then
              some false
              else iterC (b24_4 v16 v19) 1000000000 0)
def b24_1 (x1 x2 : Int) (x0 : L_II) (x3 : L_LIIE) (a1 : L_I) (a2 : L_LIEI) (x4 x5 x6 : Int) (v1 : L_I) : Bd (Int × (List (Int))) Bool := fun s1 =>
  if (decide (s1.1 < (a1.length : Int))) = true then
   if 0 ≤ s1.1 ∧ s1.1 < (a1.length : Int) then
    if 0 ≤ s1.1 ∧ s1.1 < (s1.2.length : Int) then
     .next (IntKind.i64.wrap (s1.1 + 1), s1.2.set s1.1.toNat (if IntKind.i64.wrap ((a1.getD s1.1.toNat default) + x6) < (x0.getD (IntKind.i64.wrap ((x0.length : Int) - 1)).toNat default).1 then IntKind.i64.wrap ((a1.getD s1.1.toNat default) + x6) else (x0.getD (IntKind.i64.wrap ((x0.length : Int) - 1)).toNat default).1))
     else .out none
    else .out none
   else .out (iterC (b24_2 x1 x2 x0 x3 a1 a2 x4 x5 v1 s1) 1000000000 ([], 0))
def r24 (x1 x2 : Int) (x0 : L_II) (x3 : L_LIIE) (a1 : L_I) (a2 : L_LIEI) (x7 : L_I) (x8 x4 x5 x9 x10 x11 x6 : Int) : Option (Bool) :=
  if 0 ≤ IntKind.i64.wrap ((x0.length : Int) - 1) ∧ IntKind.i64.wrap ((x0.length : Int) - 1) < (x0.length : Int) then
   (r17 a1).bind fun v1 =>
    iterC (b24_1 x1 x2 x0 x3 a1 a2 x4 x5 x6 v1) 1000000000 (0, v1)
   else none
def T24 := qT59 qu1 false r24
attribute [go_sem] T24
def tb24 : Fns := lk [(14, T14.sp), (17, T17.sp), (21, T21.sp), (22, T22.sp), (64, T64.sp), (88, T88.sp), (89, T89.sp), (90, T90.sp), (91, T91.sp)]
theorem tb24_ok : FnsOk Tryz.prog tb24 := .cons f14 (.cons f17 (.cons f21 (.cons f22 (.cons f64 (.cons f88 (.cons f89 (.cons f90 (.cons f91 .nil))))))))
theorem tk24 : tb24 14 = some T14.sp ∧ tb24 17 = some T17.sp ∧ tb24 21 = some T21.sp ∧ tb24 22 = some T22.sp ∧ tb24 64 = some T64.sp ∧ tb24 88 = some T88.sp ∧ tb24 89 = some T89.sp ∧ tb24 90 = some T90.sp ∧ tb24 91 = some T91.sp := ⟨rfl, rfl, rfl, rfl, rfl, rfl, rfl, rfl, rfl⟩
section
attribute [local go_sem] tk24 Tryz.results24
theorem f24 : FnFact Tryz.prog 24 T24.sp := by
  refine valid_m ty_ok tb24_ok Tryz.func24 rfl Tryz.ntmps24 fun ⟨x1, x2, x0, x3, a1, a2, x7, x8, x4, x5, x9, x10, x11, x6⟩ r hr => ⟨nL rfl, fun stop S => ?_⟩
  replace hr : r24 x1 x2 x0 x3 a1 a2 x7 x8 x4 x5 x9 x10 x11 x6 = some r := hr
  unfold r24 at hr
  refine S.gx [14, 20, 25, 26] ?_
  obtain ⟨hg24, hr⟩ := of_guard0 hr
  obtain ⟨v1, hv1, hr⟩ := of_bind0 hr
  refine gb hv1 ?_
  refine S.sees [1, 2, 4, 7, 9, 10, 11] [(4, 4), (7, 7), (10, 10)] [(33, 33), (35, 35)] ?_ (Stop.iter S (fun s1 => ⟨[(1, .c (.d (encF 1 d_I a1))), (2, .c (.d (encF 2 d_LIEI a2))), (4, .c (.ref 4 0)), (7, .c (.ref 7 0)), (9, .c (.d (.int .i64 ((x0.getD (IntKind.i64.wrap ((x0.length : Int) - 1)).toNat default).1)))), (10, .c (.ref 10 0)), (11, .c (.d (.int .i64 s1.1)))], [(4, [.d (.int .i64 x1), .d (.int .i64 x2), .d (encF 2 d_II x0), .d (encF 1 d_LIIE x3)]), (7, [.d (encF 1 d_I x7), .d (.int .i64 x8), .d (.int .i64 x4), .d (.int .i64 x5), .d (.int .i64 x9), .d (.int .i64 x10), .d (.int .i64 x11), .d (.int .i64 x6)]), (10, [.own 33, .own 35])], [(33, .owned (encF 1 d_I v1)), (35, .owned (encF 1 d_I s1.2))]⟩) (b24_1 x1 x2 x0 x3 a1 a2 x4 x5 x6 v1) (fun q => q = r) hr rfl ?_)
  · exact lf
  · intro s1 hr
    unfold b24_1 at hr
    refine S.gx [14, 20, 25, 26] ?_
    refine gr ?_
    refine iW1 hr (fun hc hr => D1 (S.ss [1, 2, 4, 7, 9, 10, 11] [(4, 4), (7, 7), (10, 10)] [(33, 33), (35, 35)]) hr) fun hc hr => ?_
    refine gr ?_
    have hr := of_out0 hr
    refine gr ?_
    refine S.own0 12 1001200 3 rfl rfl ?_
    refine S.sees [1, 2, 4, 7, 10, 12, 13] [(4, 4), (7, 7), (10, 10)] [(1001200, 1001200), (33, 33), (35, 35)] ?_ (Stop.iter S (fun s2 => ⟨[(1, .c (.d (encF 1 d_I a1))), (2, .c (.d (encF 2 d_LIEI a2))), (4, .c (.ref 4 0)), (7, .c (.ref 7 0)), (10, .c (.ref 10 0)), (12, .c (.own 1001200)), (13, .c (.d (.int .i64 s2.2)))], [(4, [.d (.int .i64 x1), .d (.int .i64 x2), .d (encF 2 d_II x0), .d (encF 1 d_LIIE x3)]), (7, [.d (encF 1 d_I x7), .d (.int .i64 x8), .d (.int .i64 x4), .d (.int .i64 x5), .d (.int .i64 x9), .d (.int .i64 x10), .d (.int .i64 x11), .d (.int .i64 x6)]), (10, [.own 33, .own 35])], [(1001200, .owned (encF 3 d_LIIEII s2.1)), (33, .owned (encF 1 d_I v1)), (35, .owned (encF 1 d_I s1.2))]⟩) (b24_2 x1 x2 x0 x3 a1 a2 x4 x5 v1 s1) (fun q => q = r) hr rfl ?_)
    · exact lf
    · intro s2 hr
      unfold b24_2 at hr
      refine S.gx [14, 20, 25, 26] ?_
      refine gr ?_
      refine iW1 hr (fun hc hr => ?_) fun hc hr => ?_
      · obtain ⟨hg11, hr⟩ := of_guard1 hr
        obtain ⟨hg12, hr⟩ := of_guard1 hr
        refine gr ?_
        refine S.own0b 14 0 2001400 2 rfl rfl (nL rfl) rfl ?_
        obtain ⟨q3, hq, hr⟩ := of_iter1 hr
        refine S.sees [1, 2, 4, 7, 10, 12, 13, 14, 15] [(4, 4), (7, 7), (10, 10), (14, 14)] [(2001400, 2001400), (1001200, 1001200), (33, 33), (35, 35)] ?_ (Stop.iter S (fun s3 => ⟨[(1, .c (.d (encF 1 d_I a1))), (2, .c (.d (encF 2 d_LIEI a2))), (4, .c (.ref 4 0)), (7, .c (.ref 7 0)), (10, .c (.ref 10 0)), (12, .c (.own 1001200)), (13, .c (.d (.int .i64 s2.2))), (14, .c (.ref 14 0)), (15, .c (.d (.int .i64 s3.1)))], [(4, [.d (.int .i64 x1), .d (.int .i64 x2), .d (encF 2 d_II x0), .d (encF 1 d_LIIE x3)]), (7, [.d (encF 1 d_I x7), .d (.int .i64 x8), .d (.int .i64 x4), .d (.int .i64 x5), .d (.int .i64 x9), .d (.int .i64 x10), .d (.int .i64 x11), .d (.int .i64 x6)]), (10, [.own 33, .own 35]), (14, [.own 2001400, .d (.int .i64 ((a2.getD s2.2.toNat default).2)), .d (.int .i64 ((a2.getD s2.2.toNat default).2))])], [(2001400, .owned (encF 2 d_II s3.2)), (1001200, .owned (encF 3 d_LIIEII s2.1)), (33, .owned (encF 1 d_I v1)), (35, .owned (encF 1 d_I s1.2))]⟩) (b24_3 a2 s2) _ hq hr ?_)
        · exact lf
        · intro s3 hr
          unfold b24_3 at hr
          refine S.gx [14, 20, 25, 26] ?_
          obtain ⟨hg10, hr⟩ := of_guard1 hr
          refine gr ?_
          refine iW1 hr (fun hc hr => ?_) fun hc hr => ?_
          · obtain ⟨hg4, hr⟩ := of_guard1 hr
            obtain ⟨hg5, hr⟩ := of_guard1 hr
            obtain ⟨hg6, hr⟩ := of_guard1 hr
            obtain ⟨hg7, hr⟩ := of_guard1 hr
            obtain ⟨hg8, hr⟩ := of_guard1 hr
            refine gr ?_
            refine S.prune [1, 2, 4, 7, 10, 12, 13, 14, 15] ?_
            refine S.gx [20, 25, 26] ?_
            exact D1 (S.ss [1, 2, 4, 7, 10, 12, 13, 14, 15] [(4, 4), (7, 7), (10, 10), (14, 14)] [(104, 2001400), (1001200, 1001200), (33, 33), (35, 35)]) hr
          · refine gr ?_
            replace hr := goodC_out hr
            exact D1 (S.ss [1, 2, 4, 7, 10, 12, 13] [(4, 4), (7, 7), (10, 10)] [(109, 1001200), (33, 33), (35, 35)]) hr
      · refine gr ?_
        have hr := of_out0 hr
        obtain ⟨v13, hv13, hr⟩ := of_bind0 hr
        obtain ⟨v14, hv14, hr⟩ := of_bind0 hr
        obtain ⟨v15, hv15, hr⟩ := of_bind0 hr
        obtain ⟨v16, hv16, hr⟩ := of_bind0 hr
        obtain ⟨v17, hv17, hr⟩ := of_bind0 hr
        obtain ⟨v18, hv18, hr⟩ := of_bind0 hr
        obtain ⟨v19, hv19, hr⟩ := of_bind0 hr
        obtain ⟨v20, hv20, hr⟩ := of_bind0 hr
        refine gb hv13 ?_
        refine gb hv14 ?_
        refine gb hv15 ?_
        refine gb hv16 ?_
        refine gb hv17 ?_
        refine gb hv18 ?_
        refine gb hv19 ?_
        refine gb hv20 ?_
        refine S.prune [7, 16, 17, 18, 19, 20, 21] ?_
        refine S.gx [14, 25, 26] ?_
        repeat (first | refine gA ?_ | refine gB ?_)
        refine gr ?_
        refine iW hr (fun hc hr => D0 hr) fun hc hr => ?_
        refine gr ?_
        refine iW hr (fun hc hr => D0 hr) fun hc hr => ?_
        repeat (first | refine gA ?_ | refine gB ?_)
        refine iW hr (fun hc hr => ?_) fun hc hr => ?_
        · refine gr ?_
          refine S.prune [] ?_
          refine S.gx [14, 20, 26] ?_
          exact D0 hr
        · refine gr ?_
          refine S.prune [16, 18] ?_
          refine S.gx [14, 20, 25] ?_
          refine gr ?_
          refine gr ?_
          refine S.sees [16, 18, 22] [] [(117, 117), (127, 127)] ?_ (Stop.iter S (fun s4 => ⟨[(16, .c (.own 117)), (18, .c (.own 127)), (22, .c (.d (.int .i64 s4)))], [], [(117, .owned (encF 2 d_LIELIE v16.1)), (127, .owned (encF 1 d_LIE v19.1))]⟩) (b24_4 v16 v19) (fun q => q = r) hr rfl ?_)
          · exact lf
          · intro s4 hr
            unfold b24_4 at hr
            refine S.gx [14, 20, 25, 26] ?_
            exact D1 (S.ss [16, 18, 22] [] [(117, 117), (127, 127)]) hr
end
end Go.Proofs.YthldpejmofhaoaaGreatDoor

/- Contracts of functions, written by wip/dec. -/
import Derived.Test.YtfkmbdfajpdjjaaGreatDoorF00
import Derived.Test.YtfkmbdfajpdjjaaGreatDoorF03
import Derived.Test.YtfkmbdfajpdjjaaGreatDoorF04
import Derived.Test.YtfkmbdfajpdjjaaGreatDoorF05
import Derived.Test.YtfkmbdfajpdjjaaGreatDoorF06
import Derived.Test.YtfkmbdfajpdjjaaGreatDoorF07
import Derived.Test.YtfkmbdfajpdjjaaGreatDoorF08
set_option linter.unusedVariables false
set_option linter.unusedSimpArgs false
set_option maxHeartbeats 4000000
set_option maxRecDepth 20000
namespace Go.Proofs.YtfkmbdfajpdjjaaGreatDoor
open Go.Abs
abbrev qA42 := (List (Int × Int × Int × Int)) × (List (Int × Int × Int × Int × Int)) × (List (Int × Int × Int)) × (List (Int × Int)) × Int × Int × Int × Int × Int × Int × Int × Int × Int × Int × Int × Int × Int × Int × Int × Int × Int × Int × Int × Int × Int × Int × Int × Int × Int × (List (Int × Int))
def qw42 (a0 : List (Int × Int × Int × Int)) (a1 : List (Int × Int × Int × Int × Int)) (a2 : List (Int × Int × Int)) (a3 : List (Int × Int)) (a4 : Int) (a5 : Int) (a6 : Int) (a7 : Int) (a8 : Int) (a9 : Int) (a10 : Int) (a11 : Int) (a12 : Int) (a13 : Int) (a14 : Int) (a15 : Int) (a16 : Int) (a17 : Int) (a18 : Int) (a19 : Int) (a20 : Int) (a21 : Int) (a22 : Int) (a23 : Int) (a24 : Int) (a25 : Int) (a26 : Int) (a27 : Int) (a28 : Int) (a29 : List (Int × Int)) : List Arg := [.agg [encF 4 d_IIII a0, encF 5 d_IIIII a1, encF 3 d_III a2, encF 2 d_II a3, .int .i64 a4, .int .i64 a5, .int .i64 a6, .int .i64 a7], .agg [.int .i64 a8, .int .i64 a9, .int .i64 a10, .int .i64 a11, .int .i64 a12, .int .i64 a13, .int .i64 a14, .int .i64 a15, .int .i64 a16, .int .i64 a17, .int .i64 a18, .int .i64 a19, .int .i64 a20, .int .i64 a21], .agg [.int .i64 a22, .int .i64 a23, .int .i64 a24, .int .i64 a25, .int .i64 a26, .int .i64 a27, .int .i64 a28, encF 2 d_II a29]]
def qE42 : qA42 → List Arg := fun ⟨a0, a1, a2, a3, a4, a5, a6, a7, a8, a9, a10, a11, a12, a13, a14, a15, a16, a17, a18, a19, a20, a21, a22, a23, a24, a25, a26, a27, a28, a29⟩ => qw42 a0 a1 a2 a3 a4 a5 a6 a7 a8 a9 a10 a11 a12 a13 a14 a15 a16 a17 a18 a19 a20 a21 a22 a23 a24 a25 a26 a27 a28 a29
def qd42 (a : List Arg) : qA42 := (decF g_IIII (aCell a 0 0), decF g_IIIII (aCell a 0 1), decF g_III (aCell a 0 2), decF g_II (aCell a 0 3), dInt (aCell a 0 4), dInt (aCell a 0 5), dInt (aCell a 0 6), dInt (aCell a 0 7), dInt (aCell a 1 0), dInt (aCell a 1 1), dInt (aCell a 1 2), dInt (aCell a 1 3), dInt (aCell a 1 4), dInt (aCell a 1 5), dInt (aCell a 1 6), dInt (aCell a 1 7), dInt (aCell a 1 8), dInt (aCell a 1 9), dInt (aCell a 1 10), dInt (aCell a 1 11), dInt (aCell a 1 12), dInt (aCell a 1 13), dInt (aCell a 2 0), dInt (aCell a 2 1), dInt (aCell a 2 2), dInt (aCell a 2 3), dInt (aCell a 2 4), dInt (aCell a 2 5), dInt (aCell a 2 6), decF g_II (aCell a 2 7))
def qp42 {β : Type} (f : (List (Int × Int × Int × Int)) → (List (Int × Int × Int × Int × Int)) → (List (Int × Int × Int)) → (List (Int × Int)) → Int → Int → Int → Int → Int → Int → Int → Int → Int → Int → Int → Int → Int → Int → Int → Int → Int → Int → Int → Int → Int → Int → Int → Int → Int → (List (Int × Int)) → β) (c0 c1 c2 c3 c4 c5 c6 c7 c8 c9 c10 c11 c12 c13 c14 c15 c16 c17 c18 c19 c20 c21 c22 c23 c24 c25 c26 c27 c28 c29 : D) : β := f (decF g_IIII c0) (decF g_IIIII c1) (decF g_III c2) (decF g_II c3) (dInt c4) (dInt c5) (dInt c6) (dInt c7) (dInt c8) (dInt c9) (dInt c10) (dInt c11) (dInt c12) (dInt c13) (dInt c14) (dInt c15) (dInt c16) (dInt c17) (dInt c18) (dInt c19) (dInt c20) (dInt c21) (dInt c22) (dInt c23) (dInt c24) (dInt c25) (dInt c26) (dInt c27) (dInt c28) (decF g_II c29)
def qt42 (c0 c1 c2 c3 c4 c5 c6 c7 c8 c9 c10 c11 c12 c13 c14 c15 c16 c17 c18 c19 c20 c21 c22 c23 c24 c25 c26 c27 c28 c29 : D) : List Arg := [.agg [c0, c1, c2, c3, c4, c5, c6, c7], .agg [c8, c9, c10, c11, c12, c13, c14, c15, c16, c17, c18, c19, c20, c21], .agg [c22, c23, c24, c25, c26, c27, c28, c29]]
attribute [go_sem] qw42 qp42 qt42 qE42
theorem stop_join5 {σ : Type} {k : List K} {stop : List K → St → Prop} (head : σ → St) (R : σ → Prop) {goal : Prop} (main : (∀ s, R s → stop k (head s)) → goal) (j : ∀ s, R s → stop k (head s)) : goal := main j
/- martensite/martensitelaw04.SteelBoxes -/
def j5_2 (a0_0 : List (Int × Int × Int × Int)) (a0_1 : List (Int × Int × Int × Int × Int)) (a0_2 : List (Int × Int × Int)) (a0_3 : List (Int × Int)) (a0_4 : Int) (a0_5 : Int) (a0_6 : Int) (a0_7 : Int) (a1_0 : Int) (a1_1 : Int) (a1_2 : Int) (a1_3 : Int) (a1_4 : Int) (a1_5 : Int) (a1_6 : Int) (a1_7 : Int) (a1_8 : Int) (a1_9 : Int) (a1_10 : Int) (a1_11 : Int) (a1_12 : Int) (a1_13 : Int) (a2_7 : List (Int × Int)) (s1 : Int × Int) (v6 : Int × Int × Int × Int × Int × Int × Int × Int × Int × Int × Int × Int × Int × Int × Int) (v8 : Int × Int × Int × Int × Int × Int × Int × Int × Int × Int × Int × Int × Int × Int × Int) (v9 : Int × Int × Int) : (Int) → Option (Bool) := fun s2 =>
  if (s2 != 0) = true then
   some ((((((v6.2.2.2.2.2.2.2.2.2.2.2.2.2.2 == s2) && (v8.2.2.2.2.2.2.2.2.2.2.2.2.2.2 == s2)) && (v9.2.2 == s2)) && ((v6.1 == 0) && ((v6.2.1 == 0) && ((v6.2.2.1 == 0) && ((v6.2.2.2.1 == 0) && ((v6.2.2.2.2.1 == 0) && ((v6.2.2.2.2.2.1 == 0) && ((v6.2.2.2.2.2.2.1 == 0) && ((v6.2.2.2.2.2.2.2.1 == 0) && ((v6.2.2.2.2.2.2.2.2.1 == 0) && ((v6.2.2.2.2.2.2.2.2.2.1 == 0) && ((v6.2.2.2.2.2.2.2.2.2.2.1 == 0) && ((v6.2.2.2.2.2.2.2.2.2.2.2.1 == 0) && ((v6.2.2.2.2.2.2.2.2.2.2.2.2.1 == 0) && (v6.2.2.2.2.2.2.2.2.2.2.2.2.2.1 == 0))))))))))))))) && ((v8.1 == 0) && ((v8.2.1 == 0) && ((v8.2.2.1 == 0) && ((v8.2.2.2.1 == 0) && ((v8.2.2.2.2.1 == 0) && ((v8.2.2.2.2.2.1 == 0) && ((v8.2.2.2.2.2.2.1 == 0) && ((v8.2.2.2.2.2.2.2.1 == 0) && ((v8.2.2.2.2.2.2.2.2.1 == 0) && ((v8.2.2.2.2.2.2.2.2.2.1 == 0) && ((v8.2.2.2.2.2.2.2.2.2.2.1 == 0) && ((v8.2.2.2.2.2.2.2.2.2.2.2.1 == 0) && ((v8.2.2.2.2.2.2.2.2.2.2.2.2.1 == 0) && (v8.2.2.2.2.2.2.2.2.2.2.2.2.2.1 == 0))))))))))))))) && ((v9.1 == 0) && (v9.2.1 == 0)))
   else if (!(v9.2.2 != 0)) = true → (r34 a0_0 a0_1 a0_2 a0_3 a0_4 a0_5 a0_6 a0_7 a1_0 a1_1 a1_2 a1_3 a1_4 a1_5 a1_6 a1_7 a1_8 a1_9 a1_10 a1_11 a1_12 a1_13).isSome = true then
    if ((v9.2.2 != 0) || (!((v9.1 == ((r34 a0_0 a0_1 a0_2 a0_3 a0_4 a0_5 a0_6 a0_7 a1_0 a1_1 a1_2 a1_3 a1_4 a1_5 a1_6 a1_7 a1_8 a1_9 a1_10 a1_11 a1_12 a1_13).getD default).1) && (v9.2.1 == ((r34 a0_0 a0_1 a0_2 a0_3 a0_4 a0_5 a0_6 a0_7 a1_0 a1_1 a1_2 a1_3 a1_4 a1_5 a1_6 a1_7 a1_8 a1_9 a1_10 a1_11 a1_12 a1_13).getD default).2)))) = true then
     some false
     else (r35 s1.1 s1.2).bind fun v13 =>
      if (((!((v13 != 0) && ((v6.2.2.2.2.2.2.2.2.2.2.2.2.2.2 != v13) || (!((v6.1 == 0) && ((v6.2.1 == 0) && ((v6.2.2.1 == 0) && ((v6.2.2.2.1 == 0) && ((v6.2.2.2.2.1 == 0) && ((v6.2.2.2.2.2.1 == 0) && ((v6.2.2.2.2.2.2.1 == 0) && ((v6.2.2.2.2.2.2.2.1 == 0) && ((v6.2.2.2.2.2.2.2.2.1 == 0) && ((v6.2.2.2.2.2.2.2.2.2.1 == 0) && ((v6.2.2.2.2.2.2.2.2.2.2.1 == 0) && ((v6.2.2.2.2.2.2.2.2.2.2.2.1 == 0) && ((v6.2.2.2.2.2.2.2.2.2.2.2.2.1 == 0) && (v6.2.2.2.2.2.2.2.2.2.2.2.2.2.1 == 0)))))))))))))))))) && (v13 == 0)) && (!(v6.2.2.2.2.2.2.2.2.2.2.2.2.2.2 != 0))) = true → (r36 a0_0 a0_1 a0_2 a0_3 a0_4 a0_5 a0_6 a0_7 a1_0 a1_1 a1_2 a1_3 a1_4 a1_5 a1_6 a1_7 a1_8 a1_9 a1_10 a1_11 a1_12 a1_13 s1.1 s1.2).isSome = true then
       if (((v13 != 0) && ((v6.2.2.2.2.2.2.2.2.2.2.2.2.2.2 != v13) || (!((v6.1 == 0) && ((v6.2.1 == 0) && ((v6.2.2.1 == 0) && ((v6.2.2.2.1 == 0) && ((v6.2.2.2.2.1 == 0) && ((v6.2.2.2.2.2.1 == 0) && ((v6.2.2.2.2.2.2.1 == 0) && ((v6.2.2.2.2.2.2.2.1 == 0) && ((v6.2.2.2.2.2.2.2.2.1 == 0) && ((v6.2.2.2.2.2.2.2.2.2.1 == 0) && ((v6.2.2.2.2.2.2.2.2.2.2.1 == 0) && ((v6.2.2.2.2.2.2.2.2.2.2.2.1 == 0) && ((v6.2.2.2.2.2.2.2.2.2.2.2.2.1 == 0) && (v6.2.2.2.2.2.2.2.2.2.2.2.2.2.1 == 0))))))))))))))))) || ((v13 == 0) && ((v6.2.2.2.2.2.2.2.2.2.2.2.2.2.2 != 0) || (!((v6.1 == ((r36 a0_0 a0_1 a0_2 a0_3 a0_4 a0_5 a0_6 a0_7 a1_0 a1_1 a1_2 a1_3 a1_4 a1_5 a1_6 a1_7 a1_8 a1_9 a1_10 a1_11 a1_12 a1_13 s1.1 s1.2).getD default).1) && ((v6.2.1 == ((r36 a0_0 a0_1 a0_2 a0_3 a0_4 a0_5 a0_6 a0_7 a1_0 a1_1 a1_2 a1_3 a1_4 a1_5 a1_6 a1_7 a1_8 a1_9 a1_10 a1_11 a1_12 a1_13 s1.1 s1.2).getD default).2.1) && ((v6.2.2.1 == ((r36 a0_0 a0_1 a0_2 a0_3 a0_4 a0_5 a0_6 a0_7 a1_0 a1_1 a1_2 a1_3 a1_4 a1_5 a1_6 a1_7 a1_8 a1_9 a1_10 a1_11 a1_12 a1_13 s1.1 s1.2).getD default).2.2.1) && ((v6.2.2.2.1 == ((r36 a0_0 a0_1 a0_2 a0_3 a0_4 a0_5 a0_6 a0_7 a1_0 a1_1 a1_2 a1_3 a1_4 a1_5 a1_6 a1_7 a1_8 a1_9 a1_10 a1_11 a1_12 a1_13 s1.1 s1.2).getD default).2.2.2.1) && ((v6.2.2.2.2.1 == ((r36 a0_0 a0_1 a0_2 a0_3 a0_4 a0_5 a0_6 a0_7 a1_0 a1_1 a1_2 a1_3 a1_4 a1_5 a1_6 a1_7 a1_8 a1_9 a1_10 a1_11 a1_12 a1_13 s1.1 s1.2).getD default).2.2.2.2.1) && ((v6.2.2.2.2.2.1 == ((r36 a0_0 a0_1 a0_2 a0_3 a0_4 a0_5 a0_6 a0_7 a1_0 a1_1 a1_2 a1_3 a1_4 a1_5 a1_6 a1_7 a1_8 a1_9 a1_10 a1_11 a1_12 a1_13 s1.1 s1.2).getD default).2.2.2.2.2.1) && ((v6.2.2.2.2.2.2.1 == ((r36 a0_0 a0_1 a0_2 a0_3 a0_4 a0_5 a0_6 a0_7 a1_0 a1_1 a1_2 a1_3 a1_4 a1_5 a1_6 a1_7 a1_8 a1_9 a1_10 a1_11 a1_12 a1_13 s1.1 s1.2).getD default).2.2.2.2.2.2.1) && ((v6.2.2.2.2.2.2.2.1 == ((r36 a0_0 a0_1 a0_2 a0_3 a0_4 a0_5 a0_6 a0_7 a1_0 a1_1 a1_2 a1_3 a1_4 a1_5 a1_6 a1_7 a1_8 a1_9 a1_10 a1_11 a1_12 a1_13 s1.1 s1.2).getD default).2.2.2.2.2.2.2.1) && ((v6.2.2.2.2.2.2.2.2.1 == ((r36 a0_0 a0_1 a0_2 a0_3 a0_4 a0_5 a0_6 a0_7 a1_0 a1_1 a1_2 a1_3 a1_4 a1_5 a1_6 a1_7 a1_8 a1_9 a1_10 a1_11 a1_12 a1_13 s1.1 s1.2).getD default).2.2.2.2.2.2.2.2.1) && ((v6.2.2.2.2.2.2.2.2.2.1 == ((r36 a0_0 a0_1 a0_2 a0_3 a0_4 a0_5 a0_6 a0_7 a1_0 a1_1 a1_2 a1_3 a1_4 a1_5 a1_6 a1_7 a1_8 a1_9 a1_10 a1_11 a1_12 a1_13 s1.1 s1.2).getD default).2.2.2.2.2.2.2.2.2.1) && ((v6.2.2.2.2.2.2.2.2.2.2.1 == ((r36 a0_0 a0_1 a0_2 a0_3 a0_4 a0_5 a0_6 a0_7 a1_0 a1_1 a1_2 a1_3 a1_4 a1_5 a1_6 a1_7 a1_8 a1_9 a1_10 a1_11 a1_12 a1_13 s1.1 s1.2).getD default).2.2.2.2.2.2.2.2.2.2.1) && ((v6.2.2.2.2.2.2.2.2.2.2.2.1 == ((r36 a0_0 a0_1 a0_2 a0_3 a0_4 a0_5 a0_6 a0_7 a1_0 a1_1 a1_2 a1_3 a1_4 a1_5 a1_6 a1_7 a1_8 a1_9 a1_10 a1_11 a1_12 a1_13 s1.1 s1.2).getD default).2.2.2.2.2.2.2.2.2.2.2.1) && ((v6.2.2.2.2.2.2.2.2.2.2.2.2.1 == ((r36 a0_0 a0_1 a0_2 a0_3 a0_4 a0_5 a0_6 a0_7 a1_0 a1_1 a1_2 a1_3 a1_4 a1_5 a1_6 a1_7 a1_8 a1_9 a1_10 a1_11 a1_12 a1_13 s1.1 s1.2).getD default).2.2.2.2.2.2.2.2.2.2.2.2.1) && (v6.2.2.2.2.2.2.2.2.2.2.2.2.2.1 == ((r36 a0_0 a0_1 a0_2 a0_3 a0_4 a0_5 a0_6 a0_7 a1_0 a1_1 a1_2 a1_3 a1_4 a1_5 a1_6 a1_7 a1_8 a1_9 a1_10 a1_11 a1_12 a1_13 s1.1 s1.2).getD default).2.2.2.2.2.2.2.2.2.2.2.2.2)))))))))))))))))) = true then
        some false
        else (r37 a2_7).bind fun v14 =>
         if (v14 != 0) = true then
          some ((v8.2.2.2.2.2.2.2.2.2.2.2.2.2.2 == v14) && ((v8.1 == 0) && ((v8.2.1 == 0) && ((v8.2.2.1 == 0) && ((v8.2.2.2.1 == 0) && ((v8.2.2.2.2.1 == 0) && ((v8.2.2.2.2.2.1 == 0) && ((v8.2.2.2.2.2.2.1 == 0) && ((v8.2.2.2.2.2.2.2.1 == 0) && ((v8.2.2.2.2.2.2.2.2.1 == 0) && ((v8.2.2.2.2.2.2.2.2.2.1 == 0) && ((v8.2.2.2.2.2.2.2.2.2.2.1 == 0) && ((v8.2.2.2.2.2.2.2.2.2.2.2.1 == 0) && ((v8.2.2.2.2.2.2.2.2.2.2.2.2.1 == 0) && (v8.2.2.2.2.2.2.2.2.2.2.2.2.2.1 == 0)))))))))))))))
          else if (v8.2.2.2.2.2.2.2.2.2.2.2.2.2.2 == 0) = true → (r38 a0_0 a0_1 a0_2 a0_3 a0_4 a0_5 a0_6 a0_7 a1_0 a1_1 a1_2 a1_3 a1_4 a1_5 a1_6 a1_7 a1_8 a1_9 a1_10 a1_11 a1_12 a1_13 a2_7).isSome = true then
           some ((v8.2.2.2.2.2.2.2.2.2.2.2.2.2.2 == 0) && ((v8.1 == ((r38 a0_0 a0_1 a0_2 a0_3 a0_4 a0_5 a0_6 a0_7 a1_0 a1_1 a1_2 a1_3 a1_4 a1_5 a1_6 a1_7 a1_8 a1_9 a1_10 a1_11 a1_12 a1_13 a2_7).getD default).1) && ((v8.2.1 == ((r38 a0_0 a0_1 a0_2 a0_3 a0_4 a0_5 a0_6 a0_7 a1_0 a1_1 a1_2 a1_3 a1_4 a1_5 a1_6 a1_7 a1_8 a1_9 a1_10 a1_11 a1_12 a1_13 a2_7).getD default).2.1) && ((v8.2.2.1 == ((r38 a0_0 a0_1 a0_2 a0_3 a0_4 a0_5 a0_6 a0_7 a1_0 a1_1 a1_2 a1_3 a1_4 a1_5 a1_6 a1_7 a1_8 a1_9 a1_10 a1_11 a1_12 a1_13 a2_7).getD default).2.2.1) && ((v8.2.2.2.1 == ((r38 a0_0 a0_1 a0_2 a0_3 a0_4 a0_5 a0_6 a0_7 a1_0 a1_1 a1_2 a1_3 a1_4 a1_5 a1_6 a1_7 a1_8 a1_9 a1_10 a1_11 a1_12 a1_13 a2_7).getD default).2.2.2.1) && ((v8.2.2.2.2.1 == ((r38 a0_0 a0_1 a0_2 a0_3 a0_4 a0_5 a0_6 a0_7 a1_0 a1_1 a1_2 a1_3 a1_4 a1_5 a1_6 a1_7 a1_8 a1_9 a1_10 a1_11 a1_12 a1_13 a2_7).getD default).2.2.2.2.1) && ((v8.2.2.2.2.2.1 == ((r38 a0_0 a0_1 a0_2 a0_3 a0_4 a0_5 a0_6 a0_7 a1_0 a1_1 a1_2 a1_3 a1_4 a1_5 a1_6 a1_7 a1_8 a1_9 a1_10 a1_11 a1_12 a1_13 a2_7).getD default).2.2.2.2.2.1) && ((v8.2.2.2.2.2.2.1 == ((r38 a0_0 a0_1 a0_2 a0_3 a0_4 a0_5 a0_6 a0_7 a1_0 a1_1 a1_2 a1_3 a1_4 a1_5 a1_6 a1_7 a1_8 a1_9 a1_10 a1_11 a1_12 a1_13 a2_7).getD default).2.2.2.2.2.2.1) && ((v8.2.2.2.2.2.2.2.1 == ((r38 a0_0 a0_1 a0_2 a0_3 a0_4 a0_5 a0_6 a0_7 a1_0 a1_1 a1_2 a1_3 a1_4 a1_5 a1_6 a1_7 a1_8 a1_9 a1_10 a1_11 a1_12 a1_13 a2_7).getD default).2.2.2.2.2.2.2.1) && ((v8.2.2.2.2.2.2.2.2.1 == ((r38 a0_0 a0_1 a0_2 a0_3 a0_4 a0_5 a0_6 a0_7 a1_0 a1_1 a1_2 a1_3 a1_4 a1_5 a1_6 a1_7 a1_8 a1_9 a1_10 a1_11 a1_12 a1_13 a2_7).getD default).2.2.2.2.2.2.2.2.1) && ((v8.2.2.2.2.2.2.2.2.2.1 == ((r38 a0_0 a0_1 a0_2 a0_3 a0_4 a0_5 a0_6 a0_7 a1_0 a1_1 a1_2 a1_3 a1_4 a1_5 a1_6 a1_7 a1_8 a1_9 a1_10 a1_11 a1_12 a1_13 a2_7).getD default).2.2.2.2.2.2.2.2.2.1) && ((v8.2.2.2.2.2.2.2.2.2.2.1 == ((r38 a0_0 a0_1 a0_2 a0_3 a0_4 a0_5 a0_6 a0_7 a1_0 a1_1 a1_2 a1_3 a1_4 a1_5 a1_6 a1_7 a1_8 a1_9 a1_10 a1_11 a1_12 a1_13 a2_7).getD default).2.2.2.2.2.2.2.2.2.2.1) && ((v8.2.2.2.2.2.2.2.2.2.2.2.1 == ((r38 a0_0 a0_1 a0_2 a0_3 a0_4 a0_5 a0_6 a0_7 a1_0 a1_1 a1_2 a1_3 a1_4 a1_5 a1_6 a1_7 a1_8 a1_9 a1_10 a1_11 a1_12 a1_13 a2_7).getD default).2.2.2.2.2.2.2.2.2.2.2.1) && ((v8.2.2.2.2.2.2.2.2.2.2.2.2.1 == ((r38 a0_0 a0_1 a0_2 a0_3 a0_4 a0_5 a0_6 a0_7 a1_0 a1_1 a1_2 a1_3 a1_4 a1_5 a1_6 a1_7 a1_8 a1_9 a1_10 a1_11 a1_12 a1_13 a2_7).getD default).2.2.2.2.2.2.2.2.2.2.2.2.1) && (v8.2.2.2.2.2.2.2.2.2.2.2.2.2.1 == ((r38 a0_0 a0_1 a0_2 a0_3 a0_4 a0_5 a0_6 a0_7 a1_0 a1_1 a1_2 a1_3 a1_4 a1_5 a1_6 a1_7 a1_8 a1_9 a1_10 a1_11 a1_12 a1_13 a2_7).getD default).2.2.2.2.2.2.2.2.2.2.2.2.2)))))))))))))))
           else none
       else none
    else none
def j5_1 (a0_0 : List (Int × Int × Int × Int)) (a0_1 : List (Int × Int × Int × Int × Int)) (a0_2 : List (Int × Int × Int)) (a0_3 : List (Int × Int)) (a0_4 : Int) (a0_5 : Int) (a0_6 : Int) (a0_7 : Int) (a1_0 : Int) (a1_1 : Int) (a1_2 : Int) (a1_3 : Int) (a1_4 : Int) (a1_5 : Int) (a1_6 : Int) (a1_7 : Int) (a1_8 : Int) (a1_9 : Int) (a1_10 : Int) (a1_11 : Int) (a1_12 : Int) (a1_13 : Int) (a2_7 : List (Int × Int)) : (Int × Int) → Option (Bool) := fun s1 =>
  (r9 a0_0 a0_1 a0_2 a0_3 a0_4 a0_5 a0_6 a0_7).bind fun v5 =>
   (r29 v5.1 v5.2.1 v5.2.2.1 v5.2.2.2.1 v5.2.2.2.2.1 v5.2.2.2.2.2.1 v5.2.2.2.2.2.2.1 v5.2.2.2.2.2.2.2 a1_0 a1_1 a1_2 a1_3 a1_4 a1_5 a1_6 a1_7 a1_8 a1_9 a1_10 a1_11 a1_12 a1_13 s1.1 s1.2).bind fun v6 =>
    (r31 a2_7).bind fun v7 =>
     (r30 v5.1 v5.2.1 v5.2.2.1 v5.2.2.2.1 v5.2.2.2.2.1 v5.2.2.2.2.2.1 v5.2.2.2.2.2.2.1 v5.2.2.2.2.2.2.2 a1_0 a1_1 a1_2 a1_3 a1_4 a1_5 a1_6 a1_7 a1_8 a1_9 a1_10 a1_11 a1_12 a1_13 v7).bind fun v8 =>
      (r32 v5.1 v5.2.1 v5.2.2.1 v5.2.2.2.1 v5.2.2.2.2.1 v5.2.2.2.2.2.1 v5.2.2.2.2.2.2.1 v5.2.2.2.2.2.2.2 a1_0 a1_1 a1_2 a1_3 a1_4 a1_5 a1_6 a1_7 a1_8 a1_9 a1_10 a1_11 a1_12 a1_13).bind fun v9 =>
       (r22 a1_0 a1_1 a1_2 a1_3 a1_4 a1_5 a1_6 a1_7 a1_8 a1_9 a1_10 a1_11 a1_12 a1_13).bind fun v10 =>
        (r33 a1_0 a1_1 a1_2 a1_3 a1_4 a1_5 a1_6 a1_7 a1_8 a1_9 a1_10 a1_11 a1_12 a1_13).bind fun v11 =>
         if (v11 != v10) = true then
          some false
          else (r11 a0_0 a0_1 a0_2 a0_3 a0_4 a0_5 a0_6 a0_7).bind fun v12 =>
           if (v12 != 0) = true then
            j5_2 a0_0 a0_1 a0_2 a0_3 a0_4 a0_5 a0_6 a0_7 a1_0 a1_1 a1_2 a1_3 a1_4 a1_5 a1_6 a1_7 a1_8 a1_9 a1_10 a1_11 a1_12 a1_13 a2_7 s1 v6 v8 v9 v12
            else j5_2 a0_0 a0_1 a0_2 a0_3 a0_4 a0_5 a0_6 a0_7 a1_0 a1_1 a1_2 a1_3 a1_4 a1_5 a1_6 a1_7 a1_8 a1_9 a1_10 a1_11 a1_12 a1_13 a2_7 s1 v6 v8 v9 v10
def r5 (a0_0 : List (Int × Int × Int × Int)) (a0_1 : List (Int × Int × Int × Int × Int)) (a0_2 : List (Int × Int × Int)) (a0_3 : List (Int × Int)) (a0_4 : Int) (a0_5 : Int) (a0_6 : Int) (a0_7 : Int) (a1_0 : Int) (a1_1 : Int) (a1_2 : Int) (a1_3 : Int) (a1_4 : Int) (a1_5 : Int) (a1_6 : Int) (a1_7 : Int) (a1_8 : Int) (a1_9 : Int) (a1_10 : Int) (a1_11 : Int) (a1_12 : Int) (a1_13 : Int) (a2_0 : Int) (a2_1 : Int) (a2_2 : Int) (a2_3 : Int) (a2_4 : Int) (a2_5 : Int) (a2_6 : Int) (a2_7 : List (Int × Int)) : Option (Bool) :=
  (r6).bind fun v1 =>
   if (!v1) = true then
    some false
    else (r7 a0_0 a0_1 a0_2 a0_3 a0_4 a0_5 a0_6 a0_7).bind fun v2 =>
     if (!(!v2)) = true → (r26 (a2_7.length : Int)).isSome = true then
      if ((!v2) || (!((r26 (a2_7.length : Int)).getD default))) = true then
       some true
       else (r27 a2_0 a2_1 a2_2 a2_3 a2_4 a2_5 a2_6).bind fun v3 =>
        (r16 a2_0 a2_1 a2_2 a2_3 a2_4 a2_5 a2_6).bind fun v4 =>
         if (((!((v4 != 0) && ((v3.2.2.2.2.2.2.2.2.2.2.2.2.2.2 != v4) || (!((v3.1 == 0) && ((v3.2.1 == 0) && ((v3.2.2.1 == 0) && ((v3.2.2.2.1 == 0) && ((v3.2.2.2.2.1 == 0) && ((v3.2.2.2.2.2.1 == 0) && ((v3.2.2.2.2.2.2.1 == 0) && ((v3.2.2.2.2.2.2.2.1 == 0) && ((v3.2.2.2.2.2.2.2.2.1 == 0) && ((v3.2.2.2.2.2.2.2.2.2.1 == 0) && ((v3.2.2.2.2.2.2.2.2.2.2.1 == 0) && ((v3.2.2.2.2.2.2.2.2.2.2.2.1 == 0) && ((v3.2.2.2.2.2.2.2.2.2.2.2.2.1 == 0) && (v3.2.2.2.2.2.2.2.2.2.2.2.2.2.1 == 0)))))))))))))))))) && (v4 == 0)) && (!(v3.2.2.2.2.2.2.2.2.2.2.2.2.2.2 != 0))) = true → (r28 a2_0 a2_1 a2_2 a2_3 a2_4 a2_5 a2_6).isSome = true then
          if (((v4 != 0) && ((v3.2.2.2.2.2.2.2.2.2.2.2.2.2.2 != v4) || (!((v3.1 == 0) && ((v3.2.1 == 0) && ((v3.2.2.1 == 0) && ((v3.2.2.2.1 == 0) && ((v3.2.2.2.2.1 == 0) && ((v3.2.2.2.2.2.1 == 0) && ((v3.2.2.2.2.2.2.1 == 0) && ((v3.2.2.2.2.2.2.2.1 == 0) && ((v3.2.2.2.2.2.2.2.2.1 == 0) && ((v3.2.2.2.2.2.2.2.2.2.1 == 0) && ((v3.2.2.2.2.2.2.2.2.2.2.1 == 0) && ((v3.2.2.2.2.2.2.2.2.2.2.2.1 == 0) && ((v3.2.2.2.2.2.2.2.2.2.2.2.2.1 == 0) && (v3.2.2.2.2.2.2.2.2.2.2.2.2.2.1 == 0))))))))))))))))) || ((v4 == 0) && ((v3.2.2.2.2.2.2.2.2.2.2.2.2.2.2 != 0) || (!((v3.1 == ((r28 a2_0 a2_1 a2_2 a2_3 a2_4 a2_5 a2_6).getD default).1) && ((v3.2.1 == ((r28 a2_0 a2_1 a2_2 a2_3 a2_4 a2_5 a2_6).getD default).2.1) && ((v3.2.2.1 == ((r28 a2_0 a2_1 a2_2 a2_3 a2_4 a2_5 a2_6).getD default).2.2.1) && ((v3.2.2.2.1 == ((r28 a2_0 a2_1 a2_2 a2_3 a2_4 a2_5 a2_6).getD default).2.2.2.1) && ((v3.2.2.2.2.1 == ((r28 a2_0 a2_1 a2_2 a2_3 a2_4 a2_5 a2_6).getD default).2.2.2.2.1) && ((v3.2.2.2.2.2.1 == ((r28 a2_0 a2_1 a2_2 a2_3 a2_4 a2_5 a2_6).getD default).2.2.2.2.2.1) && ((v3.2.2.2.2.2.2.1 == ((r28 a2_0 a2_1 a2_2 a2_3 a2_4 a2_5 a2_6).getD default).2.2.2.2.2.2.1) && ((v3.2.2.2.2.2.2.2.1 == ((r28 a2_0 a2_1 a2_2 a2_3 a2_4 a2_5 a2_6).getD default).2.2.2.2.2.2.2.1) && ((v3.2.2.2.2.2.2.2.2.1 == ((r28 a2_0 a2_1 a2_2 a2_3 a2_4 a2_5 a2_6).getD default).2.2.2.2.2.2.2.2.1) && ((v3.2.2.2.2.2.2.2.2.2.1 == ((r28 a2_0 a2_1 a2_2 a2_3 a2_4 a2_5 a2_6).getD default).2.2.2.2.2.2.2.2.2.1) && ((v3.2.2.2.2.2.2.2.2.2.2.1 == ((r28 a2_0 a2_1 a2_2 a2_3 a2_4 a2_5 a2_6).getD default).2.2.2.2.2.2.2.2.2.2.1) && ((v3.2.2.2.2.2.2.2.2.2.2.2.1 == ((r28 a2_0 a2_1 a2_2 a2_3 a2_4 a2_5 a2_6).getD default).2.2.2.2.2.2.2.2.2.2.2.1) && ((v3.2.2.2.2.2.2.2.2.2.2.2.2.1 == ((r28 a2_0 a2_1 a2_2 a2_3 a2_4 a2_5 a2_6).getD default).2.2.2.2.2.2.2.2.2.2.2.2.1) && (v3.2.2.2.2.2.2.2.2.2.2.2.2.2.1 == ((r28 a2_0 a2_1 a2_2 a2_3 a2_4 a2_5 a2_6).getD default).2.2.2.2.2.2.2.2.2.2.2.2.2)))))))))))))))))) = true then
           some false
           else if (decide ((a2_7.length : Int) > 0)) = true then
            if 0 ≤ 0 ∧ 0 < (a2_7.length : Int) then
             j5_1 a0_0 a0_1 a0_2 a0_3 a0_4 a0_5 a0_6 a0_7 a1_0 a1_1 a1_2 a1_3 a1_4 a1_5 a1_6 a1_7 a1_8 a1_9 a1_10 a1_11 a1_12 a1_13 a2_7 ((a2_7.getD 0 default).1, (a2_7.getD 0 default).2)
             else none
            else j5_1 a0_0 a0_1 a0_2 a0_3 a0_4 a0_5 a0_6 a0_7 a1_0 a1_1 a1_2 a1_3 a1_4 a1_5 a1_6 a1_7 a1_8 a1_9 a1_10 a1_11 a1_12 a1_13 a2_7 (300, 310)
          else none
      else none
def T5 : TSpec qA42 := mkT qE42 qd42 (fun ⟨a0_0, a0_1, a0_2, a0_3, a0_4, a0_5, a0_6, a0_7, a1_0, a1_1, a1_2, a1_3, a1_4, a1_5, a1_6, a1_7, a1_8, a1_9, a1_10, a1_11, a1_12, a1_13, a2_0, a2_1, a2_2, a2_3, a2_4, a2_5, a2_6, a2_7⟩ => r5 a0_0 a0_1 a0_2 a0_3 a0_4 a0_5 a0_6 a0_7 a1_0 a1_1 a1_2 a1_3 a1_4 a1_5 a1_6 a1_7 a1_8 a1_9 a1_10 a1_11 a1_12 a1_13 a2_0 a2_1 a2_2 a2_3 a2_4 a2_5 a2_6 a2_7) qu3 false
theorem TP5 (c0 c1 c2 c3 c4 c5 c6 c7 c8 c9 c10 c11 c12 c13 c14 c15 c16 c17 c18 c19 c20 c21 c22 c23 c24 c25 c26 c27 c28 c29 : D) : T5.sp.pre [.agg [c0, c1, c2, c3, c4, c5, c6, c7], .agg [c8, c9, c10, c11, c12, c13, c14, c15, c16, c17, c18, c19, c20, c21], .agg [c22, c23, c24, c25, c26, c27, c28, c29]] = (eqvArgs (qt42 c0 c1 c2 c3 c4 c5 c6 c7 c8 c9 c10 c11 c12 c13 c14 c15 c16 c17 c18 c19 c20 c21 c22 c23 c24 c25 c26 c27 c28 c29) (qp42 qw42 c0 c1 c2 c3 c4 c5 c6 c7 c8 c9 c10 c11 c12 c13 c14 c15 c16 c17 c18 c19 c20 c21 c22 c23 c24 c25 c26 c27 c28 c29) ∧ (qp42 r5 c0 c1 c2 c3 c4 c5 c6 c7 c8 c9 c10 c11 c12 c13 c14 c15 c16 c17 c18 c19 c20 c21 c22 c23 c24 c25 c26 c27 c28 c29).isSome = true) := (rfl)
theorem TR5 (c0 c1 c2 c3 c4 c5 c6 c7 c8 c9 c10 c11 c12 c13 c14 c15 c16 c17 c18 c19 c20 c21 c22 c23 c24 c25 c26 c27 c28 c29 : D) : T5.sp.res [.agg [c0, c1, c2, c3, c4, c5, c6, c7], .agg [c8, c9, c10, c11, c12, c13, c14, c15, c16, c17, c18, c19, c20, c21], .agg [c22, c23, c24, c25, c26, c27, c28, c29]] = qu3 ((qp42 r5 c0 c1 c2 c3 c4 c5 c6 c7 c8 c9 c10 c11 c12 c13 c14 c15 c16 c17 c18 c19 c20 c21 c22 c23 c24 c25 c26 c27 c28 c29).getD default) := (rfl)
theorem TA5 : T5.sp.alias = false := (rfl)
def tb5 : Fns := lk [(6, T6.sp), (7, T7.sp), (9, T9.sp), (11, T11.sp), (16, T16.sp), (22, T22.sp), (26, T26.sp), (27, T27.sp), (28, T28.sp), (29, T29.sp), (30, T30.sp), (31, T31.sp), (32, T32.sp), (33, T33.sp), (34, T34.sp), (35, T35.sp), (36, T36.sp), (37, T37.sp), (38, T38.sp)]
theorem tb5_ok : FnsOk Tryz.prog tb5 := .cons f6 (.cons f7 (.cons f9 (.cons f11 (.cons f16 (.cons f22 (.cons f26 (.cons f27 (.cons f28 (.cons f29 (.cons f30 (.cons f31 (.cons f32 (.cons f33 (.cons f34 (.cons f35 (.cons f36 (.cons f37 (.cons f38 (FnsOk.nil)))))))))))))))))))
theorem tb5_6 : tb5 6 = some T6.sp := rfl
theorem tb5_7 : tb5 7 = some T7.sp := rfl
theorem tb5_9 : tb5 9 = some T9.sp := rfl
theorem tb5_11 : tb5 11 = some T11.sp := rfl
theorem tb5_16 : tb5 16 = some T16.sp := rfl
theorem tb5_22 : tb5 22 = some T22.sp := rfl
theorem tb5_26 : tb5 26 = some T26.sp := rfl
theorem tb5_27 : tb5 27 = some T27.sp := rfl
theorem tb5_28 : tb5 28 = some T28.sp := rfl
theorem tb5_29 : tb5 29 = some T29.sp := rfl
theorem tb5_30 : tb5 30 = some T30.sp := rfl
theorem tb5_31 : tb5 31 = some T31.sp := rfl
theorem tb5_32 : tb5 32 = some T32.sp := rfl
theorem tb5_33 : tb5 33 = some T33.sp := rfl
theorem tb5_34 : tb5 34 = some T34.sp := rfl
theorem tb5_35 : tb5 35 = some T35.sp := rfl
theorem tb5_36 : tb5 36 = some T36.sp := rfl
theorem tb5_37 : tb5 37 = some T37.sp := rfl
theorem tb5_38 : tb5 38 = some T38.sp := rfl
attribute [go_sem] TP5 TR5 TA5
section
attribute [local go_sem] T5 tb5_6 tb5_7 tb5_9 tb5_11 tb5_16 tb5_22 tb5_26 tb5_27 tb5_28 tb5_29 tb5_30 tb5_31 tb5_32 tb5_33 tb5_34 tb5_35 tb5_36 tb5_37 tb5_38 Tryz.results5
theorem v5 : Valid Tryz.prog 5 T5.sp := by
  refine valid_t (fn := Tryz.f5) (n := 205) ty_ok tb5_ok Tryz.func5 rfl Tryz.ntmps5 ?_
  rintro ⟨a0_0, a0_1, a0_2, a0_3, a0_4, a0_5, a0_6, a0_7, a1_0, a1_1, a1_2, a1_3, a1_4, a1_5, a1_6, a1_7, a1_8, a1_9, a1_10, a1_11, a1_12, a1_13, a2_0, a2_1, a2_2, a2_3, a2_4, a2_5, a2_6, a2_7⟩ hx
  obtain ⟨r, hr⟩ := Option.isSome_iff_exists.1 (show (r5 a0_0 a0_1 a0_2 a0_3 a0_4 a0_5 a0_6 a0_7 a1_0 a1_1 a1_2 a1_3 a1_4 a1_5 a1_6 a1_7 a1_8 a1_9 a1_10 a1_11 a1_12 a1_13 a2_0 a2_1 a2_2 a2_3 a2_4 a2_5 a2_6 a2_7).isSome = true from hx)
  have hres : T5.res (a0_0, a0_1, a0_2, a0_3, a0_4, a0_5, a0_6, a0_7, a1_0, a1_1, a1_2, a1_3, a1_4, a1_5, a1_6, a1_7, a1_8, a1_9, a1_10, a1_11, a1_12, a1_13, a2_0, a2_1, a2_2, a2_3, a2_4, a2_5, a2_6, a2_7) = qu3 r := by simp only [T5, mkT, hr, Option.getD_some]
  refine ⟨Nat.le_of_ble_eq_true rfl, fun stop S => ?_⟩
  rw [hres] at S
  unfold r5 at hr
  refine S.gx [8, 9, 12, 17, 18, 21, 27, 28] ?_
  obtain ⟨v1, hv1, hr⟩ := of_bind0 hr
  try simp only [hv1, Option.getD_some, Option.isSome_some, true_and, and_assoc]
  repeat refine gA ?_
  refine ⟨fun hc => ?_, fun hc => ?_⟩
  · replace hr := ifP hr hc
    repeat refine gA ?_
    obtain rfl := Option.some.inj hr
    exact lf
  · replace hr := ifN hr hc
    obtain ⟨v2, hv2, hr⟩ := of_bind0 hr
    obtain ⟨hg20, hr⟩ := of_guard0 hr
    try simp only [hv2, Option.getD_some, Option.isSome_some, true_and, and_assoc]
    repeat (first | refine gG hg20 ?_ | refine gA ?_ | refine gB ?_)
    refine ⟨fun hc => ?_, fun hc => ?_⟩
    · replace hr := ifP hr hc
      repeat refine gA ?_
      obtain rfl := Option.some.inj hr
      exact lf
    · replace hr := ifN hr hc
      obtain ⟨v3, hv3, hr⟩ := of_bind0 hr
      obtain ⟨v4, hv4, hr⟩ := of_bind0 hr
      obtain ⟨hg19, hr⟩ := of_guard0 hr
      try simp only [hv3, hv4, Option.getD_some, Option.isSome_some, true_and, and_assoc]
      repeat (first | refine gG hg19 ?_ | refine gA ?_ | refine gB ?_)
      refine ⟨fun hc => ?_, fun hc => ?_⟩
      · replace hr := ifP hr hc
        repeat refine gA ?_
        refine S.prune [] ?_
        refine S.gx [9, 12, 17, 18, 21, 27, 28] ?_
        repeat refine gA ?_
        repeat refine gA ?_
        obtain rfl := Option.some.inj hr
        exact lf
      · replace hr := ifN hr hc
        repeat refine gA ?_
        refine S.prune [3, 4, 5] ?_
        refine S.gx [8, 12, 17, 18, 21, 27, 28] ?_
        repeat refine gA ?_
        repeat refine gA ?_
        apply stop_join5 (stop := stop) (fun s1 => ⟨[(3, .c (.ref 3 0)), (4, .c (.ref 4 0)), (5, .c (.ref 5 0)), (10, .c (.ref 10 0))], [(3, [.d (encF 4 d_IIII a0_0), .d (encF 5 d_IIIII a0_1), .d (encF 3 d_III a0_2), .d (encF 2 d_II a0_3), .d (.int .i64 a0_4), .d (.int .i64 a0_5), .d (.int .i64 a0_6), .d (.int .i64 a0_7)]), (4, [.d (.int .i64 a1_0), .d (.int .i64 a1_1), .d (.int .i64 a1_2), .d (.int .i64 a1_3), .d (.int .i64 a1_4), .d (.int .i64 a1_5), .d (.int .i64 a1_6), .d (.int .i64 a1_7), .d (.int .i64 a1_8), .d (.int .i64 a1_9), .d (.int .i64 a1_10), .d (.int .i64 a1_11), .d (.int .i64 a1_12), .d (.int .i64 a1_13)]), (5, [.d (.int .i64 a2_0), .d (.int .i64 a2_1), .d (.int .i64 a2_2), .d (.int .i64 a2_3), .d (.int .i64 a2_4), .d (.int .i64 a2_5), .d (.int .i64 a2_6), .d (encF 2 d_II a2_7)]), (10, [.d (.int .i64 s1.1), .d (.int .i64 s1.2)])], []⟩) (fun s1 => j5_1 a0_0 a0_1 a0_2 a0_3 a0_4 a0_5 a0_6 a0_7 a1_0 a1_1 a1_2 a1_3 a1_4 a1_5 a1_6 a1_7 a1_8 a1_9 a1_10 a1_11 a1_12 a1_13 a2_7 s1 = some r)
        · intro J1
          refine ⟨fun hc => ?_, fun hc => ?_⟩
          · replace hr := ifP hr hc
            obtain ⟨hg18, hr⟩ := of_guard0 hr
            repeat refine gA ?_
            refine S.sees [3, 4, 5, 10] [(3, 3), (4, 4), (5, 5), (10, 10)] [] ?_ (J1 _ hr)
            exact lf
          · replace hr := ifN hr hc
            repeat refine gA ?_
            refine S.sees [3, 4, 5, 10] [(3, 3), (4, 4), (5, 5), (10, 10)] [] ?_ (J1 _ hr)
            exact lf
        · intro s1 hr
          unfold j5_1 at hr
          refine S.gx [8, 9, 12, 17, 18, 21, 27, 28] ?_
          repeat refine gA ?_
          refine S.gx [8, 9, 17, 18, 21, 27, 28] ?_
          obtain ⟨v5, hv5, hr⟩ := of_bind0 hr
          obtain ⟨v6, hv6, hr⟩ := of_bind0 hr
          try simp only [hv5, hv6, Option.getD_some, Option.isSome_some, true_and, and_assoc]
          repeat refine gA ?_
          obtain ⟨v7, hv7, hr⟩ := of_bind0 hr
          obtain ⟨v8, hv8, hr⟩ := of_bind0 hr
          obtain ⟨v9, hv9, hr⟩ := of_bind0 hr
          obtain ⟨v10, hv10, hr⟩ := of_bind0 hr
          obtain ⟨v11, hv11, hr⟩ := of_bind0 hr
          try simp only [hv5, hv7, hv8, hv9, hv10, hv11, Option.getD_some, Option.isSome_some, true_and, and_assoc]
          repeat refine gA ?_
          refine ⟨fun hc => ?_, fun hc => ?_⟩
          · replace hr := ifP hr hc
            repeat refine gA ?_
            refine S.prune [] ?_
            refine S.gx [8, 9, 12, 18, 21, 27, 28] ?_
            repeat refine gA ?_
            repeat refine gA ?_
            obtain rfl := Option.some.inj hr
            exact lf
          · replace hr := ifN hr hc
            repeat refine gA ?_
            refine S.prune [3, 4, 5, 10, 11, 12, 13, 14, 15, 16, 17] ?_
            refine S.gx [8, 9, 12, 17, 21, 27, 28] ?_
            obtain ⟨v12, hv12, hr⟩ := of_bind0 hr
            try simp only [hv12, Option.getD_some, Option.isSome_some, true_and, and_assoc]
            repeat refine gA ?_
            repeat refine gA ?_
            apply stop_join5 (stop := stop) (fun s2 => ⟨[(3, .c (.ref 3 0)), (4, .c (.ref 4 0)), (5, .c (.ref 5 0)), (10, .c (.ref 10 0)), (11, .c (.ref 11 0)), (12, .c (.d (.int .i64 v6.2.2.2.2.2.2.2.2.2.2.2.2.2.2))), (13, .c (.ref 13 0)), (14, .c (.d (.int .i64 v8.2.2.2.2.2.2.2.2.2.2.2.2.2.2))), (15, .c (.ref 15 0)), (16, .c (.d (.int .i64 v9.2.2))), (17, .c (.d (.int .i64 s2)))], [(3, [.d (encF 4 d_IIII a0_0), .d (encF 5 d_IIIII a0_1), .d (encF 3 d_III a0_2), .d (encF 2 d_II a0_3), .d (.int .i64 a0_4), .d (.int .i64 a0_5), .d (.int .i64 a0_6), .d (.int .i64 a0_7)]), (4, [.d (.int .i64 a1_0), .d (.int .i64 a1_1), .d (.int .i64 a1_2), .d (.int .i64 a1_3), .d (.int .i64 a1_4), .d (.int .i64 a1_5), .d (.int .i64 a1_6), .d (.int .i64 a1_7), .d (.int .i64 a1_8), .d (.int .i64 a1_9), .d (.int .i64 a1_10), .d (.int .i64 a1_11), .d (.int .i64 a1_12), .d (.int .i64 a1_13)]), (5, [.d (.int .i64 a2_0), .d (.int .i64 a2_1), .d (.int .i64 a2_2), .d (.int .i64 a2_3), .d (.int .i64 a2_4), .d (.int .i64 a2_5), .d (.int .i64 a2_6), .d (encF 2 d_II a2_7)]), (10, [.d (.int .i64 s1.1), .d (.int .i64 s1.2)]), (11, [.d (.int .i64 v6.1), .d (.int .i64 v6.2.1), .d (.int .i64 v6.2.2.1), .d (.int .i64 v6.2.2.2.1), .d (.int .i64 v6.2.2.2.2.1), .d (.int .i64 v6.2.2.2.2.2.1), .d (.int .i64 v6.2.2.2.2.2.2.1), .d (.int .i64 v6.2.2.2.2.2.2.2.1), .d (.int .i64 v6.2.2.2.2.2.2.2.2.1), .d (.int .i64 v6.2.2.2.2.2.2.2.2.2.1), .d (.int .i64 v6.2.2.2.2.2.2.2.2.2.2.1), .d (.int .i64 v6.2.2.2.2.2.2.2.2.2.2.2.1), .d (.int .i64 v6.2.2.2.2.2.2.2.2.2.2.2.2.1), .d (.int .i64 v6.2.2.2.2.2.2.2.2.2.2.2.2.2.1)]), (13, [.d (.int .i64 v8.1), .d (.int .i64 v8.2.1), .d (.int .i64 v8.2.2.1), .d (.int .i64 v8.2.2.2.1), .d (.int .i64 v8.2.2.2.2.1), .d (.int .i64 v8.2.2.2.2.2.1), .d (.int .i64 v8.2.2.2.2.2.2.1), .d (.int .i64 v8.2.2.2.2.2.2.2.1), .d (.int .i64 v8.2.2.2.2.2.2.2.2.1), .d (.int .i64 v8.2.2.2.2.2.2.2.2.2.1), .d (.int .i64 v8.2.2.2.2.2.2.2.2.2.2.1), .d (.int .i64 v8.2.2.2.2.2.2.2.2.2.2.2.1), .d (.int .i64 v8.2.2.2.2.2.2.2.2.2.2.2.2.1), .d (.int .i64 v8.2.2.2.2.2.2.2.2.2.2.2.2.2.1)]), (15, [.d (.int .i64 v9.1), .d (.int .i64 v9.2.1)])], []⟩) (fun s2 => j5_2 a0_0 a0_1 a0_2 a0_3 a0_4 a0_5 a0_6 a0_7 a1_0 a1_1 a1_2 a1_3 a1_4 a1_5 a1_6 a1_7 a1_8 a1_9 a1_10 a1_11 a1_12 a1_13 a2_7 s1 v6 v8 v9 s2 = some r)
            · intro J2
              refine ⟨fun hc => ?_, fun hc => ?_⟩
              · replace hr := ifP hr hc
                repeat refine gA ?_
                refine S.sees [3, 4, 5, 10, 11, 12, 13, 14, 15, 16, 17] [(3, 3), (4, 4), (5, 5), (10, 10), (11, 11), (13, 13), (15, 15)] [] ?_ (J2 _ hr)
                exact lf
              · replace hr := ifN hr hc
                repeat refine gA ?_
                refine S.sees [3, 4, 5, 10, 11, 12, 13, 14, 15, 16, 17] [(3, 3), (4, 4), (5, 5), (10, 10), (11, 11), (13, 13), (15, 15)] [] ?_ (J2 _ hr)
                exact lf
            · intro s2 hr
              unfold j5_2 at hr
              refine S.gx [8, 9, 12, 17, 18, 21, 27, 28] ?_
              repeat refine gA ?_
              refine S.gx [8, 9, 12, 17, 18, 27, 28] ?_
              repeat refine gA ?_
              repeat refine gA ?_
              refine ⟨fun hc => ?_, fun hc => ?_⟩
              · replace hr := ifP hr hc
                repeat (first | refine gA ?_ | refine gB ?_)
                obtain rfl := Option.some.inj hr
                exact lf
              · replace hr := ifN hr hc
                obtain ⟨hg17, hr⟩ := of_guard0 hr
                repeat (first | refine gG hg17 ?_ | refine gA ?_ | refine gB ?_)
                refine ⟨fun hc => ?_, fun hc => ?_⟩
                · replace hr := ifP hr hc
                  repeat refine gA ?_
                  obtain rfl := Option.some.inj hr
                  exact lf
                · replace hr := ifN hr hc
                  obtain ⟨v13, hv13, hr⟩ := of_bind0 hr
                  obtain ⟨hg16, hr⟩ := of_guard0 hr
                  try simp only [hv13, Option.getD_some, Option.isSome_some, true_and, and_assoc]
                  repeat (first | refine gG hg16 ?_ | refine gA ?_ | refine gB ?_)
                  refine ⟨fun hc => ?_, fun hc => ?_⟩
                  · replace hr := ifP hr hc
                    repeat refine gA ?_
                    refine S.prune [] ?_
                    refine S.gx [8, 9, 12, 17, 18, 21, 28] ?_
                    repeat refine gA ?_
                    repeat refine gA ?_
                    obtain rfl := Option.some.inj hr
                    exact lf
                  · replace hr := ifN hr hc
                    repeat refine gA ?_
                    refine S.prune [3, 4, 5, 13, 14] ?_
                    refine S.gx [8, 9, 12, 17, 18, 21, 27] ?_
                    obtain ⟨v14, hv14, hr⟩ := of_bind0 hr
                    try simp only [hv14, Option.getD_some, Option.isSome_some, true_and, and_assoc]
                    repeat refine gA ?_
                    repeat refine gA ?_
                    refine ⟨fun hc => ?_, fun hc => ?_⟩
                    · replace hr := ifP hr hc
                      repeat (first | refine gA ?_ | refine gB ?_)
                      obtain rfl := Option.some.inj hr
                      exact lf
                    · replace hr := ifN hr hc
                      obtain ⟨hg15, hr⟩ := of_guard0 hr
                      repeat (first | refine gG hg15 ?_ | refine gA ?_ | refine gB ?_)
                      obtain rfl := Option.some.inj hr
                      exact lf
theorem f5 : FnFact Tryz.prog 5 T5.sp := ⟨⟨Tryz.f5, Tryz.func5, by decide, rfl⟩, v5⟩
end
end Go.Proofs.YtfkmbdfajpdjjaaGreatDoor

/- Contracts of functions, written by wip/dec. -/
import Derived.Test.YtfkmbdfajpdjjaaDoorF00
import Derived.Test.YtfkmbdfajpdjjaaDoorF03
import Derived.Test.YtfkmbdfajpdjjaaDoorF05
import Derived.Test.YtfkmbdfajpdjjaaDoorF06
import Derived.Test.YtfkmbdfajpdjjaaDoorF08
import Derived.Test.YtfkmbdfajpdjjaaDoorF10
import Derived.Test.YtfkmbdfajpdjjaaDoorF14
set_option linter.unusedVariables false
set_option linter.unusedSimpArgs false
set_option maxHeartbeats 4000000
set_option maxRecDepth 20000
namespace Go.Proofs.YtfkmbdfajpdjjaaDoor
open Go.Abs
theorem stop_join8 {σ : Type} {k : List K} {stop : List K → St → Prop} (head : σ → St) (R : σ → Prop) {goal : Prop} (main : (∀ s, R s → stop k (head s)) → goal) (j : ∀ s, R s → stop k (head s)) : goal := main j
/- martensite/martensitelaw04.SteelRuns -/
def j8_4 (a0_0 : List (Int × Int × Int × Int)) (a0_1 : List (Int × Int × Int × Int × Int)) (a0_2 : List (Int × Int × Int)) (a0_3 : List (Int × Int)) (a0_4 : Int) (a0_5 : Int) (a0_6 : Int) (a0_7 : Int) (a1_0 : Int) (a1_1 : Int) (a1_2 : Int) (a1_3 : Int) (a1_4 : Int) (a1_5 : Int) (a1_6 : Int) (a2_0 : List (Int)) (a2_1 : Int) (a2_2 : Int) (a2_3 : Int) (v7 : Int × Int × Int × Int × Int × Int × Int × Int) : (Int) → Option (Bool) := fun s4 =>
  if (s4 != 0) = true then
   some ((v7.2.2.2.2.2.2.2 == s4) && ((v7.1 == 0) && ((v7.2.1 == 0) && ((v7.2.2.1 == 0) && ((v7.2.2.2.1 == 0) && ((v7.2.2.2.2.1 == 0) && ((v7.2.2.2.2.2.1 == 0) && (v7.2.2.2.2.2.2.1 == 0))))))))
   else if (v7.2.2.2.2.2.2.2 == 0) = true → (r40 a0_0 a0_1 a0_2 a0_3 a0_4 a0_5 a0_6 a0_7 a1_0 a1_1 a1_2 a1_3 a1_4 a1_5 a1_6 a2_0 a2_1 a2_2 a2_3).isSome = true then
    some ((v7.2.2.2.2.2.2.2 == 0) && ((v7.1 == ((r40 a0_0 a0_1 a0_2 a0_3 a0_4 a0_5 a0_6 a0_7 a1_0 a1_1 a1_2 a1_3 a1_4 a1_5 a1_6 a2_0 a2_1 a2_2 a2_3).getD default).1) && ((v7.2.1 == ((r40 a0_0 a0_1 a0_2 a0_3 a0_4 a0_5 a0_6 a0_7 a1_0 a1_1 a1_2 a1_3 a1_4 a1_5 a1_6 a2_0 a2_1 a2_2 a2_3).getD default).2.1) && ((v7.2.2.1 == ((r40 a0_0 a0_1 a0_2 a0_3 a0_4 a0_5 a0_6 a0_7 a1_0 a1_1 a1_2 a1_3 a1_4 a1_5 a1_6 a2_0 a2_1 a2_2 a2_3).getD default).2.2.1) && ((v7.2.2.2.1 == ((r40 a0_0 a0_1 a0_2 a0_3 a0_4 a0_5 a0_6 a0_7 a1_0 a1_1 a1_2 a1_3 a1_4 a1_5 a1_6 a2_0 a2_1 a2_2 a2_3).getD default).2.2.2.1) && ((v7.2.2.2.2.1 == ((r40 a0_0 a0_1 a0_2 a0_3 a0_4 a0_5 a0_6 a0_7 a1_0 a1_1 a1_2 a1_3 a1_4 a1_5 a1_6 a2_0 a2_1 a2_2 a2_3).getD default).2.2.2.2.1) && ((v7.2.2.2.2.2.1 == ((r40 a0_0 a0_1 a0_2 a0_3 a0_4 a0_5 a0_6 a0_7 a1_0 a1_1 a1_2 a1_3 a1_4 a1_5 a1_6 a2_0 a2_1 a2_2 a2_3).getD default).2.2.2.2.2.1) && (v7.2.2.2.2.2.2.1 == ((r40 a0_0 a0_1 a0_2 a0_3 a0_4 a0_5 a0_6 a0_7 a1_0 a1_1 a1_2 a1_3 a1_4 a1_5 a1_6 a2_0 a2_1 a2_2 a2_3).getD default).2.2.2.2.2.2))))))))
    else none
def j8_3 (a0_0 : List (Int × Int × Int × Int)) (a0_1 : List (Int × Int × Int × Int × Int)) (a0_2 : List (Int × Int × Int)) (a0_3 : List (Int × Int)) (a0_4 : Int) (a0_5 : Int) (a0_6 : Int) (a0_7 : Int) (a1_0 : Int) (a1_1 : Int) (a1_2 : Int) (a1_3 : Int) (a1_4 : Int) (a1_5 : Int) (a1_6 : Int) (a2_0 : List (Int)) (a2_1 : Int) (a2_2 : Int) (a2_3 : Int) (s1 : Int) (v5 : Int × Int × Int × Int × Int × Int × Int × Int) (v7 : Int × Int × Int × Int × Int × Int × Int × Int) (v9 : Int × Int) : (Int) → Option (Bool) := fun s3 =>
  if (((!((s3 != 0) && ((v5.2.2.2.2.2.2.2 != s3) || (!((v5.1 == 0) && ((v5.2.1 == 0) && ((v5.2.2.1 == 0) && ((v5.2.2.2.1 == 0) && ((v5.2.2.2.2.1 == 0) && ((v5.2.2.2.2.2.1 == 0) && (v5.2.2.2.2.2.2.1 == 0))))))))))) && (s3 == 0)) && (!(v5.2.2.2.2.2.2.2 != 0))) = true → (r39 a0_0 a0_1 a0_2 a0_3 a0_4 a0_5 a0_6 a0_7 a1_0 a1_1 a1_2 a1_3 a1_4 a1_5 a1_6 s1 a2_1 a2_2 a2_3).isSome = true then
   if (((s3 != 0) && ((v5.2.2.2.2.2.2.2 != s3) || (!((v5.1 == 0) && ((v5.2.1 == 0) && ((v5.2.2.1 == 0) && ((v5.2.2.2.1 == 0) && ((v5.2.2.2.2.1 == 0) && ((v5.2.2.2.2.2.1 == 0) && (v5.2.2.2.2.2.2.1 == 0)))))))))) || ((s3 == 0) && ((v5.2.2.2.2.2.2.2 != 0) || (!((v5.1 == ((r39 a0_0 a0_1 a0_2 a0_3 a0_4 a0_5 a0_6 a0_7 a1_0 a1_1 a1_2 a1_3 a1_4 a1_5 a1_6 s1 a2_1 a2_2 a2_3).getD default).1) && ((v5.2.1 == ((r39 a0_0 a0_1 a0_2 a0_3 a0_4 a0_5 a0_6 a0_7 a1_0 a1_1 a1_2 a1_3 a1_4 a1_5 a1_6 s1 a2_1 a2_2 a2_3).getD default).2.1) && ((v5.2.2.1 == ((r39 a0_0 a0_1 a0_2 a0_3 a0_4 a0_5 a0_6 a0_7 a1_0 a1_1 a1_2 a1_3 a1_4 a1_5 a1_6 s1 a2_1 a2_2 a2_3).getD default).2.2.1) && ((v5.2.2.2.1 == ((r39 a0_0 a0_1 a0_2 a0_3 a0_4 a0_5 a0_6 a0_7 a1_0 a1_1 a1_2 a1_3 a1_4 a1_5 a1_6 s1 a2_1 a2_2 a2_3).getD default).2.2.2.1) && ((v5.2.2.2.2.1 == ((r39 a0_0 a0_1 a0_2 a0_3 a0_4 a0_5 a0_6 a0_7 a1_0 a1_1 a1_2 a1_3 a1_4 a1_5 a1_6 s1 a2_1 a2_2 a2_3).getD default).2.2.2.2.1) && ((v5.2.2.2.2.2.1 == ((r39 a0_0 a0_1 a0_2 a0_3 a0_4 a0_5 a0_6 a0_7 a1_0 a1_1 a1_2 a1_3 a1_4 a1_5 a1_6 s1 a2_1 a2_2 a2_3).getD default).2.2.2.2.2.1) && (v5.2.2.2.2.2.2.1 == ((r39 a0_0 a0_1 a0_2 a0_3 a0_4 a0_5 a0_6 a0_7 a1_0 a1_1 a1_2 a1_3 a1_4 a1_5 a1_6 s1 a2_1 a2_2 a2_3).getD default).2.2.2.2.2.2))))))))))) = true then
    some false
    else (r22 a2_0).bind fun v14 =>
     if (((!((v14 != 0) && ((v9.2 != v14) || (v9.1 != 0)))) && (v14 == 0)) && (!(v9.2 != 0))) = true → (r40 a0_0 a0_1 a0_2 a0_3 a0_4 a0_5 a0_6 a0_7 a1_0 a1_1 a1_2 a1_3 a1_4 a1_5 a1_6 a2_0 1000 1000 1000).isSome = true then
      if (((v14 != 0) && ((v9.2 != v14) || (v9.1 != 0))) || ((v14 == 0) && ((v9.2 != 0) || (v9.1 != (((r40 a0_0 a0_1 a0_2 a0_3 a0_4 a0_5 a0_6 a0_7 a1_0 a1_1 a1_2 a1_3 a1_4 a1_5 a1_6 a2_0 1000 1000 1000).getD default).2.2.2.2.2.1))))) = true then
       some false
       else if (v14 == 0) = true then
        (r20 a2_1 a2_2 a2_3).bind fun v15 =>
         j8_4 a0_0 a0_1 a0_2 a0_3 a0_4 a0_5 a0_6 a0_7 a1_0 a1_1 a1_2 a1_3 a1_4 a1_5 a1_6 a2_0 a2_1 a2_2 a2_3 v7 v15
        else j8_4 a0_0 a0_1 a0_2 a0_3 a0_4 a0_5 a0_6 a0_7 a1_0 a1_1 a1_2 a1_3 a1_4 a1_5 a1_6 a2_0 a2_1 a2_2 a2_3 v7 v14
      else none
   else none
def j8_2 (a0_0 : List (Int × Int × Int × Int)) (a0_1 : List (Int × Int × Int × Int × Int)) (a0_2 : List (Int × Int × Int)) (a0_3 : List (Int × Int)) (a0_4 : Int) (a0_5 : Int) (a0_6 : Int) (a0_7 : Int) (a1_0 : Int) (a1_1 : Int) (a1_2 : Int) (a1_3 : Int) (a1_4 : Int) (a1_5 : Int) (a1_6 : Int) (a2_0 : List (Int)) (a2_1 : Int) (a2_2 : Int) (a2_3 : Int) (s1 : Int) (v5 : Int × Int × Int × Int × Int × Int × Int × Int) (v7 : Int × Int × Int × Int × Int × Int × Int × Int) (v8 : Int × Int) (v9 : Int × Int) : (Int) → Option (Bool) := fun s2 =>
  if (s2 != 0) = true then
   some ((((((((v5.2.2.2.2.2.2.2 == s2) && (v7.2.2.2.2.2.2.2 == s2)) && (v8.2 == s2)) && (v9.2 == s2)) && ((v5.1 == 0) && ((v5.2.1 == 0) && ((v5.2.2.1 == 0) && ((v5.2.2.2.1 == 0) && ((v5.2.2.2.2.1 == 0) && ((v5.2.2.2.2.2.1 == 0) && (v5.2.2.2.2.2.2.1 == 0)))))))) && ((v7.1 == 0) && ((v7.2.1 == 0) && ((v7.2.2.1 == 0) && ((v7.2.2.2.1 == 0) && ((v7.2.2.2.2.1 == 0) && ((v7.2.2.2.2.2.1 == 0) && (v7.2.2.2.2.2.2.1 == 0)))))))) && (v8.1 == 0)) && (v9.1 == 0))
   else if (!(v8.2 != 0)) = true → (r38 a0_0 a0_1 a0_2 a0_3 a0_4 a0_5 a0_6 a0_7 a1_0 a1_1 a1_2 a1_3 a1_4 a1_5 a1_6).isSome = true then
    if ((v8.2 != 0) || (v8.1 != ((r38 a0_0 a0_1 a0_2 a0_3 a0_4 a0_5 a0_6 a0_7 a1_0 a1_1 a1_2 a1_3 a1_4 a1_5 a1_6).getD default))) = true then
     some false
     else (r32 s1).bind fun v12 =>
      if (v12 == 0) = true then
       (r20 a2_1 a2_2 a2_3).bind fun v13 =>
        j8_3 a0_0 a0_1 a0_2 a0_3 a0_4 a0_5 a0_6 a0_7 a1_0 a1_1 a1_2 a1_3 a1_4 a1_5 a1_6 a2_0 a2_1 a2_2 a2_3 s1 v5 v7 v9 v13
       else j8_3 a0_0 a0_1 a0_2 a0_3 a0_4 a0_5 a0_6 a0_7 a1_0 a1_1 a1_2 a1_3 a1_4 a1_5 a1_6 a2_0 a2_1 a2_2 a2_3 s1 v5 v7 v9 v12
    else none
def j8_1 (a0_0 : List (Int × Int × Int × Int)) (a0_1 : List (Int × Int × Int × Int × Int)) (a0_2 : List (Int × Int × Int)) (a0_3 : List (Int × Int)) (a0_4 : Int) (a0_5 : Int) (a0_6 : Int) (a0_7 : Int) (a1_0 : Int) (a1_1 : Int) (a1_2 : Int) (a1_3 : Int) (a1_4 : Int) (a1_5 : Int) (a1_6 : Int) (a2_0 : List (Int)) (a2_1 : Int) (a2_2 : Int) (a2_3 : Int) : (Int) → Option (Bool) := fun s1 =>
  (r15 a0_0 a0_1 a0_2 a0_3 a0_4 a0_5 a0_6 a0_7).bind fun v4 =>
   (r30 v4.1 v4.2.1 v4.2.2.1 v4.2.2.2.1 v4.2.2.2.2.1 v4.2.2.2.2.2.1 v4.2.2.2.2.2.2.1 v4.2.2.2.2.2.2.2 a1_0 a1_1 a1_2 a1_3 a1_4 a1_5 a1_6 s1 a2_1 a2_2 a2_3).bind fun v5 =>
    (r24 a2_0).bind fun v6 =>
     (r23 v4.1 v4.2.1 v4.2.2.1 v4.2.2.2.1 v4.2.2.2.2.1 v4.2.2.2.2.2.1 v4.2.2.2.2.2.2.1 v4.2.2.2.2.2.2.2 a1_0 a1_1 a1_2 a1_3 a1_4 a1_5 a1_6 v6 a2_1 a2_2 a2_3).bind fun v7 =>
      (r31 v4.1 v4.2.1 v4.2.2.1 v4.2.2.2.1 v4.2.2.2.2.1 v4.2.2.2.2.2.1 v4.2.2.2.2.2.2.1 v4.2.2.2.2.2.2.2 a1_0 a1_1 a1_2 a1_3 a1_4 a1_5 a1_6).bind fun v8 =>
       (r37 v4.1 v4.2.1 v4.2.2.1 v4.2.2.2.1 v4.2.2.2.2.1 v4.2.2.2.2.2.1 v4.2.2.2.2.2.2.1 v4.2.2.2.2.2.2.2 a1_0 a1_1 a1_2 a1_3 a1_4 a1_5 a1_6 v6).bind fun v9 =>
        (r21 a0_0 a0_1 a0_2 a0_3 a0_4 a0_5 a0_6 a0_7).bind fun v10 =>
         if (v10 == 0) = true then
          (r18 a1_0 a1_1 a1_2 a1_3 a1_4 a1_5 a1_6).bind fun v11 =>
           j8_2 a0_0 a0_1 a0_2 a0_3 a0_4 a0_5 a0_6 a0_7 a1_0 a1_1 a1_2 a1_3 a1_4 a1_5 a1_6 a2_0 a2_1 a2_2 a2_3 s1 v5 v7 v8 v9 v11
          else j8_2 a0_0 a0_1 a0_2 a0_3 a0_4 a0_5 a0_6 a0_7 a1_0 a1_1 a1_2 a1_3 a1_4 a1_5 a1_6 a2_0 a2_1 a2_2 a2_3 s1 v5 v7 v8 v9 v10
def r8 (a0_0 : List (Int × Int × Int × Int)) (a0_1 : List (Int × Int × Int × Int × Int)) (a0_2 : List (Int × Int × Int)) (a0_3 : List (Int × Int)) (a0_4 : Int) (a0_5 : Int) (a0_6 : Int) (a0_7 : Int) (a1_0 : Int) (a1_1 : Int) (a1_2 : Int) (a1_3 : Int) (a1_4 : Int) (a1_5 : Int) (a1_6 : Int) (a2_0 : List (Int)) (a2_1 : Int) (a2_2 : Int) (a2_3 : Int) : Option (Bool) :=
  (r12).bind fun v1 =>
   if (!v1) = true then
    some false
    else (r13 a0_0 a0_1 a0_2 a0_3 a0_4 a0_5 a0_6 a0_7).bind fun v2 =>
     if (!(!v2)) = true → (r36 (a2_0.length : Int)).isSome = true then
      if ((!v2) || (!((r36 (a2_0.length : Int)).getD default))) = true then
       some true
       else if (decide ((a2_0.length : Int) > 0)) = true then
        if 0 ≤ 0 ∧ 0 < (a2_0.length : Int) then
         j8_1 a0_0 a0_1 a0_2 a0_3 a0_4 a0_5 a0_6 a0_7 a1_0 a1_1 a1_2 a1_3 a1_4 a1_5 a1_6 a2_0 a2_1 a2_2 a2_3 (a2_0.getD 0 default)
         else none
        else j8_1 a0_0 a0_1 a0_2 a0_3 a0_4 a0_5 a0_6 a0_7 a1_0 a1_1 a1_2 a1_3 a1_4 a1_5 a1_6 a2_0 a2_1 a2_2 a2_3 300
      else none
def T8 : TSpec ((List (Int × Int × Int × Int)) × (List (Int × Int × Int × Int × Int)) × (List (Int × Int × Int)) × (List (Int × Int)) × Int × Int × Int × Int × Int × Int × Int × Int × Int × Int × Int × (List (Int)) × Int × Int × Int) where
  enc := fun ⟨a0_0, a0_1, a0_2, a0_3, a0_4, a0_5, a0_6, a0_7, a1_0, a1_1, a1_2, a1_3, a1_4, a1_5, a1_6, a2_0, a2_1, a2_2, a2_3⟩ => [.agg [encF 4 d_IIII a0_0, encF 5 d_IIIII a0_1, encF 3 d_III a0_2, encF 2 d_II a0_3, .int .i64 a0_4, .int .i64 a0_5, .int .i64 a0_6, .int .i64 a0_7], .agg [.int .i64 a1_0, .int .i64 a1_1, .int .i64 a1_2, .int .i64 a1_3, .int .i64 a1_4, .int .i64 a1_5, .int .i64 a1_6], .agg [encF 1 d_I a2_0, .int .i64 a2_1, .int .i64 a2_2, .int .i64 a2_3]]
  dec a := (decF g_IIII (aCell a 0 0), decF g_IIIII (aCell a 0 1), decF g_III (aCell a 0 2), decF g_II (aCell a 0 3), dInt (aCell a 0 4), dInt (aCell a 0 5), dInt (aCell a 0 6), dInt (aCell a 0 7), dInt (aCell a 1 0), dInt (aCell a 1 1), dInt (aCell a 1 2), dInt (aCell a 1 3), dInt (aCell a 1 4), dInt (aCell a 1 5), dInt (aCell a 1 6), decF g_I (aCell a 2 0), dInt (aCell a 2 1), dInt (aCell a 2 2), dInt (aCell a 2 3))
  pre := fun ⟨a0_0, a0_1, a0_2, a0_3, a0_4, a0_5, a0_6, a0_7, a1_0, a1_1, a1_2, a1_3, a1_4, a1_5, a1_6, a2_0, a2_1, a2_2, a2_3⟩ => (r8 a0_0 a0_1 a0_2 a0_3 a0_4 a0_5 a0_6 a0_7 a1_0 a1_1 a1_2 a1_3 a1_4 a1_5 a1_6 a2_0 a2_1 a2_2 a2_3).isSome = true
  res := fun ⟨a0_0, a0_1, a0_2, a0_3, a0_4, a0_5, a0_6, a0_7, a1_0, a1_1, a1_2, a1_3, a1_4, a1_5, a1_6, a2_0, a2_1, a2_2, a2_3⟩ => [.c (.d (.bool ((r8 a0_0 a0_1 a0_2 a0_3 a0_4 a0_5 a0_6 a0_7 a1_0 a1_1 a1_2 a1_3 a1_4 a1_5 a1_6 a2_0 a2_1 a2_2 a2_3).getD default)))]
  al := false
theorem TP8 (c0 c1 c2 c3 c4 c5 c6 c7 c8 c9 c10 c11 c12 c13 c14 c15 c16 c17 c18 : D) : T8.sp.pre [.agg [c0, c1, c2, c3, c4, c5, c6, c7], .agg [c8, c9, c10, c11, c12, c13, c14], .agg [c15, c16, c17, c18]] = (eqvArgs [.agg [c0, c1, c2, c3, c4, c5, c6, c7], .agg [c8, c9, c10, c11, c12, c13, c14], .agg [c15, c16, c17, c18]] [.agg [encF 4 d_IIII (decF g_IIII c0), encF 5 d_IIIII (decF g_IIIII c1), encF 3 d_III (decF g_III c2), encF 2 d_II (decF g_II c3), .int .i64 (dInt c4), .int .i64 (dInt c5), .int .i64 (dInt c6), .int .i64 (dInt c7)], .agg [.int .i64 (dInt c8), .int .i64 (dInt c9), .int .i64 (dInt c10), .int .i64 (dInt c11), .int .i64 (dInt c12), .int .i64 (dInt c13), .int .i64 (dInt c14)], .agg [encF 1 d_I (decF g_I c15), .int .i64 (dInt c16), .int .i64 (dInt c17), .int .i64 (dInt c18)]] ∧ (r8 (decF g_IIII c0) (decF g_IIIII c1) (decF g_III c2) (decF g_II c3) (dInt c4) (dInt c5) (dInt c6) (dInt c7) (dInt c8) (dInt c9) (dInt c10) (dInt c11) (dInt c12) (dInt c13) (dInt c14) (decF g_I c15) (dInt c16) (dInt c17) (dInt c18)).isSome = true) := (rfl)
theorem TR8 (c0 c1 c2 c3 c4 c5 c6 c7 c8 c9 c10 c11 c12 c13 c14 c15 c16 c17 c18 : D) : T8.sp.res [.agg [c0, c1, c2, c3, c4, c5, c6, c7], .agg [c8, c9, c10, c11, c12, c13, c14], .agg [c15, c16, c17, c18]] = [.c (.d (.bool ((r8 (decF g_IIII c0) (decF g_IIIII c1) (decF g_III c2) (decF g_II c3) (dInt c4) (dInt c5) (dInt c6) (dInt c7) (dInt c8) (dInt c9) (dInt c10) (dInt c11) (dInt c12) (dInt c13) (dInt c14) (decF g_I c15) (dInt c16) (dInt c17) (dInt c18)).getD default)))] := (rfl)
theorem TA8 : T8.sp.alias = false := (rfl)
def tb8 : Fns := lk [(12, T12.sp), (13, T13.sp), (15, T15.sp), (18, T18.sp), (20, T20.sp), (21, T21.sp), (22, T22.sp), (23, T23.sp), (24, T24.sp), (30, T30.sp), (31, T31.sp), (32, T32.sp), (36, T36.sp), (37, T37.sp), (38, T38.sp), (39, T39.sp), (40, T40.sp)]
theorem tb8_ok : FnsOk Tryd.prog tb8 := .cons f12 (.cons f13 (.cons f15 (.cons f18 (.cons f20 (.cons f21 (.cons f22 (.cons f23 (.cons f24 (.cons f30 (.cons f31 (.cons f32 (.cons f36 (.cons f37 (.cons f38 (.cons f39 (.cons f40 (FnsOk.nil)))))))))))))))))
theorem tb8_12 : tb8 12 = some T12.sp := rfl
theorem tb8_13 : tb8 13 = some T13.sp := rfl
theorem tb8_15 : tb8 15 = some T15.sp := rfl
theorem tb8_18 : tb8 18 = some T18.sp := rfl
theorem tb8_20 : tb8 20 = some T20.sp := rfl
theorem tb8_21 : tb8 21 = some T21.sp := rfl
theorem tb8_22 : tb8 22 = some T22.sp := rfl
theorem tb8_23 : tb8 23 = some T23.sp := rfl
theorem tb8_24 : tb8 24 = some T24.sp := rfl
theorem tb8_30 : tb8 30 = some T30.sp := rfl
theorem tb8_31 : tb8 31 = some T31.sp := rfl
theorem tb8_32 : tb8 32 = some T32.sp := rfl
theorem tb8_36 : tb8 36 = some T36.sp := rfl
theorem tb8_37 : tb8 37 = some T37.sp := rfl
theorem tb8_38 : tb8 38 = some T38.sp := rfl
theorem tb8_39 : tb8 39 = some T39.sp := rfl
theorem tb8_40 : tb8 40 = some T40.sp := rfl
attribute [go_sem] TP8 TR8 TA8
section
attribute [local go_sem] T8 tb8_12 tb8_13 tb8_15 tb8_18 tb8_20 tb8_21 tb8_22 tb8_23 tb8_24 tb8_30 tb8_31 tb8_32 tb8_36 tb8_37 tb8_38 tb8_39 tb8_40 Tryd.results8
theorem v8 : Valid Tryd.prog 8 T8.sp := by
  refine valid_t (fn := Tryd.f8) (n := 231) ty_ok tb8_ok Tryd.func8 rfl Tryd.ntmps8 ?_
  rintro ⟨a0_0, a0_1, a0_2, a0_3, a0_4, a0_5, a0_6, a0_7, a1_0, a1_1, a1_2, a1_3, a1_4, a1_5, a1_6, a2_0, a2_1, a2_2, a2_3⟩ hx
  obtain ⟨r, hr⟩ := Option.isSome_iff_exists.1 (show (r8 a0_0 a0_1 a0_2 a0_3 a0_4 a0_5 a0_6 a0_7 a1_0 a1_1 a1_2 a1_3 a1_4 a1_5 a1_6 a2_0 a2_1 a2_2 a2_3).isSome = true from hx)
  have hres : T8.res (a0_0, a0_1, a0_2, a0_3, a0_4, a0_5, a0_6, a0_7, a1_0, a1_1, a1_2, a1_3, a1_4, a1_5, a1_6, a2_0, a2_1, a2_2, a2_3) = [.c (.d (.bool r))] := by simp only [T8, hr, Option.getD_some]
  refine ⟨Nat.le_of_ble_eq_true rfl, fun stop S => ?_⟩
  rw [hres] at S
  unfold r8 at hr
  refine S.gx [8, 11, 15, 22, 23, 24, 27, 28, 30] ?_
  obtain ⟨v1, hv1, hr⟩ := of_bind0 hr
  try simp only [hv1, Option.getD_some, Option.isSome_some, true_and, and_assoc]
  repeat refine gA ?_
  refine ⟨fun hc => ?_, fun hc => ?_⟩
  · replace hr := ifP hr hc
    repeat refine gA ?_
    obtain rfl := Option.some.inj hr
    exact lf
  · replace hr := ifN hr hc
    obtain ⟨v2, hv2, hr⟩ := of_bind0 hr
    obtain ⟨hg20, hr⟩ := of_guard0 hr
    try simp only [hv2, Option.getD_some, Option.isSome_some, true_and, and_assoc]
    repeat (first | refine gG hg20 ?_ | refine gA ?_ | refine gB ?_)
    refine ⟨fun hc => ?_, fun hc => ?_⟩
    · replace hr := ifP hr hc
      repeat refine gA ?_
      obtain rfl := Option.some.inj hr
      exact lf
    · replace hr := ifN hr hc
      repeat refine gA ?_
      apply stop_join8 (stop := stop) (fun s1 => ⟨[(3, .c (.ref 3 0)), (4, .c (.ref 4 0)), (5, .c (.ref 5 0)), (7, .c (.d (.int .i64 s1)))], [(3, [.d (encF 4 d_IIII a0_0), .d (encF 5 d_IIIII a0_1), .d (encF 3 d_III a0_2), .d (encF 2 d_II a0_3), .d (.int .i64 a0_4), .d (.int .i64 a0_5), .d (.int .i64 a0_6), .d (.int .i64 a0_7)]), (4, [.d (.int .i64 a1_0), .d (.int .i64 a1_1), .d (.int .i64 a1_2), .d (.int .i64 a1_3), .d (.int .i64 a1_4), .d (.int .i64 a1_5), .d (.int .i64 a1_6)]), (5, [.d (encF 1 d_I a2_0), .d (.int .i64 a2_1), .d (.int .i64 a2_2), .d (.int .i64 a2_3)])], []⟩) (fun s1 => j8_1 a0_0 a0_1 a0_2 a0_3 a0_4 a0_5 a0_6 a0_7 a1_0 a1_1 a1_2 a1_3 a1_4 a1_5 a1_6 a2_0 a2_1 a2_2 a2_3 s1 = some r)
      · intro J1
        refine ⟨fun hc => ?_, fun hc => ?_⟩
        · replace hr := ifP hr hc
          obtain ⟨hg3, hr⟩ := of_guard0 hr
          repeat refine gA ?_
          refine S.sees [3, 4, 5, 7] [(3, 3), (4, 4), (5, 5)] [] ?_ (J1 _ hr)
          exact lf
        · replace hr := ifN hr hc
          repeat refine gA ?_
          refine S.sees [3, 4, 5, 7] [(3, 3), (4, 4), (5, 5)] [] ?_ (J1 _ hr)
          exact lf
      · intro s1 hr
        unfold j8_1 at hr
        refine S.gx [8, 11, 15, 22, 23, 24, 27, 28, 30] ?_
        repeat refine gA ?_
        refine S.gx [11, 15, 22, 23, 24, 27, 28, 30] ?_
        obtain ⟨v4, hv4, hr⟩ := of_bind0 hr
        obtain ⟨v5, hv5, hr⟩ := of_bind0 hr
        try simp only [hv4, hv5, Option.getD_some, Option.isSome_some, true_and, and_assoc]
        repeat refine gA ?_
        obtain ⟨v6, hv6, hr⟩ := of_bind0 hr
        obtain ⟨v7, hv7, hr⟩ := of_bind0 hr
        obtain ⟨v8, hv8, hr⟩ := of_bind0 hr
        try simp only [hv4, hv6, hv7, hv8, Option.getD_some, Option.isSome_some, true_and, and_assoc]
        repeat refine gA ?_
        refine S.prune [3, 4, 5, 7, 8, 9, 10, 11, 12, 13] ?_
        refine S.gx [8, 15, 22, 23, 24, 27, 28, 30] ?_
        obtain ⟨v9, hv9, hr⟩ := of_bind0 hr
        try simp only [hv4, hv6, hv9, Option.getD_some, Option.isSome_some, true_and, and_assoc]
        repeat refine gA ?_
        obtain ⟨v10, hv10, hr⟩ := of_bind0 hr
        try simp only [hv10, Option.getD_some, Option.isSome_some, true_and, and_assoc]
        repeat refine gA ?_
        apply stop_join8 (stop := stop) (fun s2 => ⟨[(3, .c (.ref 3 0)), (4, .c (.ref 4 0)), (5, .c (.ref 5 0)), (7, .c (.d (.int .i64 s1))), (8, .c (.ref 8 0)), (9, .c (.d (.int .i64 v5.2.2.2.2.2.2.2))), (10, .c (.ref 10 0)), (11, .c (.d (.int .i64 v7.2.2.2.2.2.2.2))), (12, .c (.d (.int .i64 v8.1))), (13, .c (.d (.int .i64 v8.2))), (14, .c (.d (.int .i64 v9.1))), (15, .c (.d (.int .i64 v9.2))), (16, .c (.d (.int .i64 s2)))], [(3, [.d (encF 4 d_IIII a0_0), .d (encF 5 d_IIIII a0_1), .d (encF 3 d_III a0_2), .d (encF 2 d_II a0_3), .d (.int .i64 a0_4), .d (.int .i64 a0_5), .d (.int .i64 a0_6), .d (.int .i64 a0_7)]), (4, [.d (.int .i64 a1_0), .d (.int .i64 a1_1), .d (.int .i64 a1_2), .d (.int .i64 a1_3), .d (.int .i64 a1_4), .d (.int .i64 a1_5), .d (.int .i64 a1_6)]), (5, [.d (encF 1 d_I a2_0), .d (.int .i64 a2_1), .d (.int .i64 a2_2), .d (.int .i64 a2_3)]), (8, [.d (.int .i64 v5.1), .d (.int .i64 v5.2.1), .d (.int .i64 v5.2.2.1), .d (.int .i64 v5.2.2.2.1), .d (.int .i64 v5.2.2.2.2.1), .d (.int .i64 v5.2.2.2.2.2.1), .d (.int .i64 v5.2.2.2.2.2.2.1)]), (10, [.d (.int .i64 v7.1), .d (.int .i64 v7.2.1), .d (.int .i64 v7.2.2.1), .d (.int .i64 v7.2.2.2.1), .d (.int .i64 v7.2.2.2.2.1), .d (.int .i64 v7.2.2.2.2.2.1), .d (.int .i64 v7.2.2.2.2.2.2.1)])], []⟩) (fun s2 => j8_2 a0_0 a0_1 a0_2 a0_3 a0_4 a0_5 a0_6 a0_7 a1_0 a1_1 a1_2 a1_3 a1_4 a1_5 a1_6 a2_0 a2_1 a2_2 a2_3 s1 v5 v7 v8 v9 s2 = some r)
        · intro J2
          refine ⟨fun hc => ?_, fun hc => ?_⟩
          · replace hr := ifP hr hc
            obtain ⟨v11, hv11, hr⟩ := of_bind0 hr
            try simp only [hv11, Option.getD_some, Option.isSome_some, true_and, and_assoc]
            repeat refine gA ?_
            refine S.sees [3, 4, 5, 7, 8, 9, 10, 11, 12, 13, 14, 15, 16] [(3, 3), (4, 4), (5, 5), (8, 8), (10, 10)] [] ?_ (J2 _ hr)
            exact lf
          · replace hr := ifN hr hc
            repeat refine gA ?_
            refine S.sees [3, 4, 5, 7, 8, 9, 10, 11, 12, 13, 14, 15, 16] [(3, 3), (4, 4), (5, 5), (8, 8), (10, 10)] [] ?_ (J2 _ hr)
            exact lf
        · intro s2 hr
          unfold j8_2 at hr
          refine S.gx [8, 11, 15, 22, 23, 24, 27, 28, 30] ?_
          repeat refine gA ?_
          refine S.gx [8, 11, 22, 23, 24, 27, 28, 30] ?_
          repeat refine gA ?_
          repeat refine gA ?_
          refine ⟨fun hc => ?_, fun hc => ?_⟩
          · replace hr := ifP hr hc
            repeat (first | refine gA ?_ | refine gB ?_)
            obtain rfl := Option.some.inj hr
            exact lf
          · replace hr := ifN hr hc
            obtain ⟨hg19, hr⟩ := of_guard0 hr
            repeat (first | refine gG hg19 ?_ | refine gA ?_ | refine gB ?_)
            refine ⟨fun hc => ?_, fun hc => ?_⟩
            · replace hr := ifP hr hc
              repeat refine gA ?_
              obtain rfl := Option.some.inj hr
              exact lf
            · replace hr := ifN hr hc
              obtain ⟨v12, hv12, hr⟩ := of_bind0 hr
              try simp only [hv12, Option.getD_some, Option.isSome_some, true_and, and_assoc]
              repeat refine gA ?_
              apply stop_join8 (stop := stop) (fun s3 => ⟨[(3, .c (.ref 3 0)), (4, .c (.ref 4 0)), (5, .c (.ref 5 0)), (7, .c (.d (.int .i64 s1))), (8, .c (.ref 8 0)), (9, .c (.d (.int .i64 v5.2.2.2.2.2.2.2))), (10, .c (.ref 10 0)), (11, .c (.d (.int .i64 v7.2.2.2.2.2.2.2))), (14, .c (.d (.int .i64 v9.1))), (15, .c (.d (.int .i64 v9.2))), (16, .c (.d (.int .i64 s3)))], [(3, [.d (encF 4 d_IIII a0_0), .d (encF 5 d_IIIII a0_1), .d (encF 3 d_III a0_2), .d (encF 2 d_II a0_3), .d (.int .i64 a0_4), .d (.int .i64 a0_5), .d (.int .i64 a0_6), .d (.int .i64 a0_7)]), (4, [.d (.int .i64 a1_0), .d (.int .i64 a1_1), .d (.int .i64 a1_2), .d (.int .i64 a1_3), .d (.int .i64 a1_4), .d (.int .i64 a1_5), .d (.int .i64 a1_6)]), (5, [.d (encF 1 d_I a2_0), .d (.int .i64 a2_1), .d (.int .i64 a2_2), .d (.int .i64 a2_3)]), (8, [.d (.int .i64 v5.1), .d (.int .i64 v5.2.1), .d (.int .i64 v5.2.2.1), .d (.int .i64 v5.2.2.2.1), .d (.int .i64 v5.2.2.2.2.1), .d (.int .i64 v5.2.2.2.2.2.1), .d (.int .i64 v5.2.2.2.2.2.2.1)]), (10, [.d (.int .i64 v7.1), .d (.int .i64 v7.2.1), .d (.int .i64 v7.2.2.1), .d (.int .i64 v7.2.2.2.1), .d (.int .i64 v7.2.2.2.2.1), .d (.int .i64 v7.2.2.2.2.2.1), .d (.int .i64 v7.2.2.2.2.2.2.1)])], []⟩) (fun s3 => j8_3 a0_0 a0_1 a0_2 a0_3 a0_4 a0_5 a0_6 a0_7 a1_0 a1_1 a1_2 a1_3 a1_4 a1_5 a1_6 a2_0 a2_1 a2_2 a2_3 s1 v5 v7 v9 s3 = some r)
              · intro J3
                refine ⟨fun hc => ?_, fun hc => ?_⟩
                · replace hr := ifP hr hc
                  obtain ⟨v13, hv13, hr⟩ := of_bind0 hr
                  try simp only [hv13, Option.getD_some, Option.isSome_some, true_and, and_assoc]
                  repeat refine gA ?_
                  refine S.sees [3, 4, 5, 7, 8, 9, 10, 11, 14, 15, 16] [(3, 3), (4, 4), (5, 5), (8, 8), (10, 10)] [] ?_ (J3 _ hr)
                  exact lf
                · replace hr := ifN hr hc
                  repeat refine gA ?_
                  refine S.sees [3, 4, 5, 7, 8, 9, 10, 11, 14, 15, 16] [(3, 3), (4, 4), (5, 5), (8, 8), (10, 10)] [] ?_ (J3 _ hr)
                  exact lf
              · intro s3 hr
                unfold j8_3 at hr
                refine S.gx [8, 11, 15, 22, 23, 24, 27, 28, 30] ?_
                repeat refine gA ?_
                refine S.gx [8, 11, 15, 23, 24, 27, 28, 30] ?_
                obtain ⟨hg18, hr⟩ := of_guard0 hr
                repeat (first | refine gG hg18 ?_ | refine gA ?_ | refine gB ?_)
                repeat refine gA ?_
                refine ⟨fun hc => ?_, fun hc => ?_⟩
                · replace hr := ifP hr hc
                  repeat refine gA ?_
                  refine S.prune [] ?_
                  refine S.gx [8, 11, 15, 22, 24, 27, 28, 30] ?_
                  repeat refine gA ?_
                  repeat refine gA ?_
                  obtain rfl := Option.some.inj hr
                  exact lf
                · replace hr := ifN hr hc
                  repeat refine gA ?_
                  refine S.prune [3, 4, 5, 10, 11, 14, 15] ?_
                  refine S.gx [8, 11, 15, 22, 23, 27, 28, 30] ?_
                  obtain ⟨v14, hv14, hr⟩ := of_bind0 hr
                  try simp only [hv14, Option.getD_some, Option.isSome_some, true_and, and_assoc]
                  repeat refine gA ?_
                  obtain ⟨hg17, hr⟩ := of_guard0 hr
                  repeat (first | refine gG hg17 ?_ | refine gA ?_ | refine gB ?_)
                  refine ⟨fun hc => ?_, fun hc => ?_⟩
                  · replace hr := ifP hr hc
                    repeat refine gA ?_
                    refine S.prune [] ?_
                    refine S.gx [8, 11, 15, 22, 23, 24, 28, 30] ?_
                    repeat refine gA ?_
                    repeat refine gA ?_
                    obtain rfl := Option.some.inj hr
                    exact lf
                  · replace hr := ifN hr hc
                    repeat refine gA ?_
                    refine S.prune [3, 4, 5, 10, 11, 16] ?_
                    refine S.gx [8, 11, 15, 22, 23, 24, 27, 30] ?_
                    repeat refine gA ?_
                    repeat refine gA ?_
                    apply stop_join8 (stop := stop) (fun s4 => ⟨[(3, .c (.ref 3 0)), (4, .c (.ref 4 0)), (5, .c (.ref 5 0)), (10, .c (.ref 10 0)), (11, .c (.d (.int .i64 v7.2.2.2.2.2.2.2))), (16, .c (.d (.int .i64 s4)))], [(3, [.d (encF 4 d_IIII a0_0), .d (encF 5 d_IIIII a0_1), .d (encF 3 d_III a0_2), .d (encF 2 d_II a0_3), .d (.int .i64 a0_4), .d (.int .i64 a0_5), .d (.int .i64 a0_6), .d (.int .i64 a0_7)]), (4, [.d (.int .i64 a1_0), .d (.int .i64 a1_1), .d (.int .i64 a1_2), .d (.int .i64 a1_3), .d (.int .i64 a1_4), .d (.int .i64 a1_5), .d (.int .i64 a1_6)]), (5, [.d (encF 1 d_I a2_0), .d (.int .i64 a2_1), .d (.int .i64 a2_2), .d (.int .i64 a2_3)]), (10, [.d (.int .i64 v7.1), .d (.int .i64 v7.2.1), .d (.int .i64 v7.2.2.1), .d (.int .i64 v7.2.2.2.1), .d (.int .i64 v7.2.2.2.2.1), .d (.int .i64 v7.2.2.2.2.2.1), .d (.int .i64 v7.2.2.2.2.2.2.1)])], []⟩) (fun s4 => j8_4 a0_0 a0_1 a0_2 a0_3 a0_4 a0_5 a0_6 a0_7 a1_0 a1_1 a1_2 a1_3 a1_4 a1_5 a1_6 a2_0 a2_1 a2_2 a2_3 v7 s4 = some r)
                    · intro J4
                      refine ⟨fun hc => ?_, fun hc => ?_⟩
                      · replace hr := ifP hr hc
                        obtain ⟨v15, hv15, hr⟩ := of_bind0 hr
                        try simp only [hv15, Option.getD_some, Option.isSome_some, true_and, and_assoc]
                        repeat refine gA ?_
                        refine S.sees [3, 4, 5, 10, 11, 16] [(3, 3), (4, 4), (5, 5), (10, 10)] [] ?_ (J4 _ hr)
                        exact lf
                      · replace hr := ifN hr hc
                        repeat refine gA ?_
                        refine S.sees [3, 4, 5, 10, 11, 16] [(3, 3), (4, 4), (5, 5), (10, 10)] [] ?_ (J4 _ hr)
                        exact lf
                    · intro s4 hr
                      unfold j8_4 at hr
                      refine S.gx [8, 11, 15, 22, 23, 24, 27, 28, 30] ?_
                      repeat refine gA ?_
                      refine S.gx [8, 11, 15, 22, 23, 24, 27, 28] ?_
                      repeat refine gA ?_
                      repeat refine gA ?_
                      refine ⟨fun hc => ?_, fun hc => ?_⟩
                      · replace hr := ifP hr hc
                        repeat (first | refine gA ?_ | refine gB ?_)
                        obtain rfl := Option.some.inj hr
                        exact lf
                      · replace hr := ifN hr hc
                        obtain ⟨hg16, hr⟩ := of_guard0 hr
                        repeat (first | refine gG hg16 ?_ | refine gA ?_ | refine gB ?_)
                        obtain rfl := Option.some.inj hr
                        exact lf
theorem f8 : FnFact Tryd.prog 8 T8.sp := ⟨⟨Tryd.f8, Tryd.func8, by decide, rfl⟩, v8⟩
end
end Go.Proofs.YtfkmbdfajpdjjaaDoor

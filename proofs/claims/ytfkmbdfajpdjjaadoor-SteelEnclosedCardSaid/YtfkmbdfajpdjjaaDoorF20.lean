/- Contracts of functions, written by wip/dec. -/
import Derived.Test.YtfkmbdfajpdjjaaDoorF00
import Derived.Test.YtfkmbdfajpdjjaaDoorF03
import Derived.Test.YtfkmbdfajpdjjaaDoorF04
import Derived.Test.YtfkmbdfajpdjjaaDoorF05
import Derived.Test.YtfkmbdfajpdjjaaDoorF06
import Derived.Test.YtfkmbdfajpdjjaaDoorF08
import Derived.Test.YtfkmbdfajpdjjaaDoorF10
import Derived.Test.YtfkmbdfajpdjjaaDoorF18
import Derived.Test.YtfkmbdfajpdjjaaDoorF19
set_option linter.unusedVariables false
set_option linter.unusedSimpArgs false
set_option maxHeartbeats 4000000
set_option maxRecDepth 20000
namespace Go.Proofs.YtfkmbdfajpdjjaaDoor
open Go.Abs
/- martensite/martensitelaw04.SteelEnclosed -/
def b11_1 (a0_0 : List (Int × Int × Int × Int)) (a0_1 : List (Int × Int × Int × Int × Int)) (a0_2 : List (Int × Int × Int)) (a0_3 : List (Int × Int)) (a0_4 : Int) (a0_5 : Int) (a0_6 : Int) (a0_7 : Int) (a1_7 : List (Int × Int)) (a2_0 : Int) (a2_1 : Int) (a2_2 : Int) (a2_3 : List (Int)) : (Int × Int × Int × Int × Int × Int × Int × Int × Int × Int × Int × Int × Int × Int × Int × Int × Int × Int × Int × Int × Int × Int) → Ctl (Int × Int × Int × Int × Int × Int × Int × Int × Int × Int × Int × Int × Int × Int × Int × Int × Int × Int × Int × Int × Int × Int) (Bool) := fun s1 =>
  if (decide (s1.1 < (a1_7.length : Int))) = true then
   if 0 ≤ s1.1 ∧ s1.1 < (a1_7.length : Int) then
    bindC (r54 s1.1 (a2_3.length : Int)) fun v4 =>
     if 0 ≤ v4 ∧ v4 < (a2_3.length : Int) then
      if 0 ≤ s1.1 ∧ s1.1 < (a1_7.length : Int) then
       if 0 ≤ s1.1 ∧ s1.1 < (a1_7.length : Int) then
        bindC (r54 (a2_3.getD v4.toNat default) (IntKind.i64.wrap ((IntKind.i64.wrap (((a1_7.getD s1.1.toNat default).2) - ((a1_7.getD s1.1.toNat default).1))) + 1))) fun v5 =>
         bindC (r15 a0_0 a0_1 a0_2 a0_3 a0_4 a0_5 a0_6 a0_7) fun v6 =>
          bindC (r30 v6.1 v6.2.1 v6.2.2.1 v6.2.2.2.1 v6.2.2.2.2.1 v6.2.2.2.2.2.1 v6.2.2.2.2.2.2.1 v6.2.2.2.2.2.2.2 s1.2.1 s1.2.2.1 s1.2.2.2.1 s1.2.2.2.2.1 s1.2.2.2.2.2.1 s1.2.2.2.2.2.2.1 s1.2.2.2.2.2.2.2.1 (IntKind.i64.wrap (((a1_7.getD s1.1.toNat default).1) + v5)) a2_0 a2_1 a2_2) fun v7 =>
           if 0 ≤ s1.1 ∧ s1.1 < (a1_7.length : Int) then
            bindC (r55 v6.1 v6.2.1 v6.2.2.1 v6.2.2.2.1 v6.2.2.2.2.1 v6.2.2.2.2.2.1 v6.2.2.2.2.2.2.1 v6.2.2.2.2.2.2.2 s1.2.2.2.2.2.2.2.2.1 s1.2.2.2.2.2.2.2.2.2.1 s1.2.2.2.2.2.2.2.2.2.2.1 s1.2.2.2.2.2.2.2.2.2.2.2.1 s1.2.2.2.2.2.2.2.2.2.2.2.2.1 s1.2.2.2.2.2.2.2.2.2.2.2.2.2.1 s1.2.2.2.2.2.2.2.2.2.2.2.2.2.2.1 s1.2.2.2.2.2.2.2.2.2.2.2.2.2.2.2.1 s1.2.2.2.2.2.2.2.2.2.2.2.2.2.2.2.2.1 s1.2.2.2.2.2.2.2.2.2.2.2.2.2.2.2.2.2.1 s1.2.2.2.2.2.2.2.2.2.2.2.2.2.2.2.2.2.2.1 s1.2.2.2.2.2.2.2.2.2.2.2.2.2.2.2.2.2.2.2.1 s1.2.2.2.2.2.2.2.2.2.2.2.2.2.2.2.2.2.2.2.2.1 s1.2.2.2.2.2.2.2.2.2.2.2.2.2.2.2.2.2.2.2.2.2 ((a1_7.getD s1.1.toNat default).1) ((a1_7.getD s1.1.toNat default).2)) fun v8 =>
             if (!((v7.2.2.2.2.2.2.2 != 0) || (v8.2.2.2.2.2.2.2.2.2.2.2.2.2.2 != 0))) = true → (r18 v7.1 v7.2.1 v7.2.2.1 v7.2.2.2.1 v7.2.2.2.2.1 v7.2.2.2.2.2.1 v7.2.2.2.2.2.2.1).isSome = true then
              if (!(((v7.2.2.2.2.2.2.2 != 0) || (v8.2.2.2.2.2.2.2.2.2.2.2.2.2.2 != 0)) || (((r18 v7.1 v7.2.1 v7.2.2.1 v7.2.2.2.1 v7.2.2.2.2.1 v7.2.2.2.2.2.1 v7.2.2.2.2.2.2.1).getD default) != 0))) = true → (r56 v8.1 v8.2.1 v8.2.2.1 v8.2.2.2.1 v8.2.2.2.2.1 v8.2.2.2.2.2.1 v8.2.2.2.2.2.2.1 v8.2.2.2.2.2.2.2.1 v8.2.2.2.2.2.2.2.2.1 v8.2.2.2.2.2.2.2.2.2.1 v8.2.2.2.2.2.2.2.2.2.2.1 v8.2.2.2.2.2.2.2.2.2.2.2.1 v8.2.2.2.2.2.2.2.2.2.2.2.2.1 v8.2.2.2.2.2.2.2.2.2.2.2.2.2.1).isSome = true then
               if (!((((v7.2.2.2.2.2.2.2 != 0) || (v8.2.2.2.2.2.2.2.2.2.2.2.2.2.2 != 0)) || (((r18 v7.1 v7.2.1 v7.2.2.1 v7.2.2.2.1 v7.2.2.2.2.1 v7.2.2.2.2.2.1 v7.2.2.2.2.2.2.1).getD default) != 0)) || (((r56 v8.1 v8.2.1 v8.2.2.1 v8.2.2.2.1 v8.2.2.2.2.1 v8.2.2.2.2.2.1 v8.2.2.2.2.2.2.1 v8.2.2.2.2.2.2.2.1 v8.2.2.2.2.2.2.2.2.1 v8.2.2.2.2.2.2.2.2.2.1 v8.2.2.2.2.2.2.2.2.2.2.1 v8.2.2.2.2.2.2.2.2.2.2.2.1 v8.2.2.2.2.2.2.2.2.2.2.2.2.1 v8.2.2.2.2.2.2.2.2.2.2.2.2.2.1).getD default) != 0))) = true → (r57 v8.1 v8.2.1 v8.2.2.1 v8.2.2.2.1 v8.2.2.2.2.1 v8.2.2.2.2.2.1 v8.2.2.2.2.2.2.1 v8.2.2.2.2.2.2.2.1 v8.2.2.2.2.2.2.2.2.1 v8.2.2.2.2.2.2.2.2.2.1 v8.2.2.2.2.2.2.2.2.2.2.1 v8.2.2.2.2.2.2.2.2.2.2.2.1 v8.2.2.2.2.2.2.2.2.2.2.2.2.1 v8.2.2.2.2.2.2.2.2.2.2.2.2.2.1 v7.1 v7.2.1 v7.2.2.1 v7.2.2.2.1 v7.2.2.2.2.1 v7.2.2.2.2.2.1 v7.2.2.2.2.2.2.1).isSome = true then
                if (((((v7.2.2.2.2.2.2.2 != 0) || (v8.2.2.2.2.2.2.2.2.2.2.2.2.2.2 != 0)) || (((r18 v7.1 v7.2.1 v7.2.2.1 v7.2.2.2.1 v7.2.2.2.2.1 v7.2.2.2.2.2.1 v7.2.2.2.2.2.2.1).getD default) != 0)) || (((r56 v8.1 v8.2.1 v8.2.2.1 v8.2.2.2.1 v8.2.2.2.2.1 v8.2.2.2.2.2.1 v8.2.2.2.2.2.2.1 v8.2.2.2.2.2.2.2.1 v8.2.2.2.2.2.2.2.2.1 v8.2.2.2.2.2.2.2.2.2.1 v8.2.2.2.2.2.2.2.2.2.2.1 v8.2.2.2.2.2.2.2.2.2.2.2.1 v8.2.2.2.2.2.2.2.2.2.2.2.2.1 v8.2.2.2.2.2.2.2.2.2.2.2.2.2.1).getD default) != 0)) || (!((r57 v8.1 v8.2.1 v8.2.2.1 v8.2.2.2.1 v8.2.2.2.2.1 v8.2.2.2.2.2.1 v8.2.2.2.2.2.2.1 v8.2.2.2.2.2.2.2.1 v8.2.2.2.2.2.2.2.2.1 v8.2.2.2.2.2.2.2.2.2.1 v8.2.2.2.2.2.2.2.2.2.2.1 v8.2.2.2.2.2.2.2.2.2.2.2.1 v8.2.2.2.2.2.2.2.2.2.2.2.2.1 v8.2.2.2.2.2.2.2.2.2.2.2.2.2.1 v7.1 v7.2.1 v7.2.2.1 v7.2.2.2.1 v7.2.2.2.2.1 v7.2.2.2.2.2.1 v7.2.2.2.2.2.2.1).getD default))) = true then
                 .out (some false)
                 else bindC (r31 v6.1 v6.2.1 v6.2.2.1 v6.2.2.2.1 v6.2.2.2.2.1 v6.2.2.2.2.2.1 v6.2.2.2.2.2.2.1 v6.2.2.2.2.2.2.2 v7.1 v7.2.1 v7.2.2.1 v7.2.2.2.1 v7.2.2.2.2.1 v7.2.2.2.2.2.1 v7.2.2.2.2.2.2.1) fun v9 =>
                  bindC (r58 v6.1 v6.2.1 v6.2.2.1 v6.2.2.2.1 v6.2.2.2.2.1 v6.2.2.2.2.2.1 v6.2.2.2.2.2.2.1 v6.2.2.2.2.2.2.2 v8.1 v8.2.1 v8.2.2.1 v8.2.2.2.1 v8.2.2.2.2.1 v8.2.2.2.2.2.1 v8.2.2.2.2.2.2.1 v8.2.2.2.2.2.2.2.1 v8.2.2.2.2.2.2.2.2.1 v8.2.2.2.2.2.2.2.2.2.1 v8.2.2.2.2.2.2.2.2.2.2.1 v8.2.2.2.2.2.2.2.2.2.2.2.1 v8.2.2.2.2.2.2.2.2.2.2.2.2.1 v8.2.2.2.2.2.2.2.2.2.2.2.2.2.1) fun v10 =>
                   if (!((v9.2 != 0) || (v10.2.2 != 0))) = true → (r29 v9.1 v10.1 v10.2.1).isSome = true then
                    if (((v9.2 != 0) || (v10.2.2 != 0)) || (!((r29 v9.1 v10.1 v10.2.1).getD default))) = true then
                     .out (some false)
                     else .next (IntKind.i64.wrap (s1.1 + 1), v7.1, v7.2.1, v7.2.2.1, v7.2.2.2.1, v7.2.2.2.2.1, v7.2.2.2.2.2.1, v7.2.2.2.2.2.2.1, v8.1, v8.2.1, v8.2.2.1, v8.2.2.2.1, v8.2.2.2.2.1, v8.2.2.2.2.2.1, v8.2.2.2.2.2.2.1, v8.2.2.2.2.2.2.2.1, v8.2.2.2.2.2.2.2.2.1, v8.2.2.2.2.2.2.2.2.2.1, v8.2.2.2.2.2.2.2.2.2.2.1, v8.2.2.2.2.2.2.2.2.2.2.2.1, v8.2.2.2.2.2.2.2.2.2.2.2.2.1, v8.2.2.2.2.2.2.2.2.2.2.2.2.2.1)
                    else .out none
                else .out none
               else .out none
              else .out none
            else .out none
        else .out none
       else .out none
      else .out none
    else .out none
   else .out (some true)
def r11 (a0_0 : List (Int × Int × Int × Int)) (a0_1 : List (Int × Int × Int × Int × Int)) (a0_2 : List (Int × Int × Int)) (a0_3 : List (Int × Int)) (a0_4 : Int) (a0_5 : Int) (a0_6 : Int) (a0_7 : Int) (a1_0 : Int) (a1_1 : Int) (a1_2 : Int) (a1_3 : Int) (a1_4 : Int) (a1_5 : Int) (a1_6 : Int) (a1_7 : List (Int × Int)) (a2_0 : Int) (a2_1 : Int) (a2_2 : Int) (a2_3 : List (Int)) : Option (Bool) :=
  (r12).bind fun v1 =>
   if (!v1) = true then
    some false
    else (r13 a0_0 a0_1 a0_2 a0_3 a0_4 a0_5 a0_6 a0_7).bind fun v2 =>
     if (!((!v2) || (decide ((a1_7.length : Int) > 30)))) = true → (r21 a0_0 a0_1 a0_2 a0_3 a0_4 a0_5 a0_6 a0_7).isSome = true then
      if (!(((!v2) || (decide ((a1_7.length : Int) > 30))) || (((r21 a0_0 a0_1 a0_2 a0_3 a0_4 a0_5 a0_6 a0_7).getD default) != 0))) = true → (r18 a1_0 a1_1 a1_2 a1_3 a1_4 a1_5 a1_6).isSome = true then
       if (!((((!v2) || (decide ((a1_7.length : Int) > 30))) || (((r21 a0_0 a0_1 a0_2 a0_3 a0_4 a0_5 a0_6 a0_7).getD default) != 0)) || (((r18 a1_0 a1_1 a1_2 a1_3 a1_4 a1_5 a1_6).getD default) != 0))) = true → (r52 a1_7).isSome = true then
        if (!(((((!v2) || (decide ((a1_7.length : Int) > 30))) || (((r21 a0_0 a0_1 a0_2 a0_3 a0_4 a0_5 a0_6 a0_7).getD default) != 0)) || (((r18 a1_0 a1_1 a1_2 a1_3 a1_4 a1_5 a1_6).getD default) != 0)) || (((r52 a1_7).getD default) != 0))) = true → (r20 a2_0 a2_1 a2_2).isSome = true then
         if ((((((((!v2) || (decide ((a1_7.length : Int) > 30))) || (((r21 a0_0 a0_1 a0_2 a0_3 a0_4 a0_5 a0_6 a0_7).getD default) != 0)) || (((r18 a1_0 a1_1 a1_2 a1_3 a1_4 a1_5 a1_6).getD default) != 0)) || (((r52 a1_7).getD default) != 0)) || (((r20 a2_0 a2_1 a2_2).getD default) != 0)) || ((a2_3.length : Int) == 0)) || (decide ((a2_3.length : Int) > 40))) = true then
          some true
          else (r53 a1_0 a1_1 a1_2 a1_3 a1_4 a1_5 a1_6).bind fun v3 =>
           if (v3.2.2.2.2.2.2.2.2.2.2.2.2.2.2 != 0) = true then
            some false
            else iterC (b11_1 a0_0 a0_1 a0_2 a0_3 a0_4 a0_5 a0_6 a0_7 a1_7 a2_0 a2_1 a2_2 a2_3) 1000000000 (0, a1_0, a1_1, a1_2, a1_3, a1_4, a1_5, a1_6, v3.1, v3.2.1, v3.2.2.1, v3.2.2.2.1, v3.2.2.2.2.1, v3.2.2.2.2.2.1, v3.2.2.2.2.2.2.1, v3.2.2.2.2.2.2.2.1, v3.2.2.2.2.2.2.2.2.1, v3.2.2.2.2.2.2.2.2.2.1, v3.2.2.2.2.2.2.2.2.2.2.1, v3.2.2.2.2.2.2.2.2.2.2.2.1, v3.2.2.2.2.2.2.2.2.2.2.2.2.1, v3.2.2.2.2.2.2.2.2.2.2.2.2.2.1)
         else none
        else none
       else none
      else none
def w11 (a0_0 : List (Int × Int × Int × Int)) (a0_1 : List (Int × Int × Int × Int × Int)) (a0_2 : List (Int × Int × Int)) (a0_3 : List (Int × Int)) (a0_4 : Int) (a0_5 : Int) (a0_6 : Int) (a0_7 : Int) (a1_0 : Int) (a1_1 : Int) (a1_2 : Int) (a1_3 : Int) (a1_4 : Int) (a1_5 : Int) (a1_6 : Int) (a1_7 : List (Int × Int)) (a2_0 : Int) (a2_1 : Int) (a2_2 : Int) (a2_3 : List (Int)) : List Arg := [.agg [encF 4 d_IIII a0_0, encF 5 d_IIIII a0_1, encF 3 d_III a0_2, encF 2 d_II a0_3, .int .i64 a0_4, .int .i64 a0_5, .int .i64 a0_6, .int .i64 a0_7], .agg [.int .i64 a1_0, .int .i64 a1_1, .int .i64 a1_2, .int .i64 a1_3, .int .i64 a1_4, .int .i64 a1_5, .int .i64 a1_6, encF 2 d_II a1_7], .agg [.int .i64 a2_0, .int .i64 a2_1, .int .i64 a2_2, encF 1 d_I a2_3]]
def u11 (v : Bool) : List RV := [.c (.d (.bool v))]
def T11 : TSpec ((List (Int × Int × Int × Int)) × (List (Int × Int × Int × Int × Int)) × (List (Int × Int × Int)) × (List (Int × Int)) × Int × Int × Int × Int × Int × Int × Int × Int × Int × Int × Int × (List (Int × Int)) × Int × Int × Int × (List (Int))) where
  enc := fun ⟨a0_0, a0_1, a0_2, a0_3, a0_4, a0_5, a0_6, a0_7, a1_0, a1_1, a1_2, a1_3, a1_4, a1_5, a1_6, a1_7, a2_0, a2_1, a2_2, a2_3⟩ => w11 a0_0 a0_1 a0_2 a0_3 a0_4 a0_5 a0_6 a0_7 a1_0 a1_1 a1_2 a1_3 a1_4 a1_5 a1_6 a1_7 a2_0 a2_1 a2_2 a2_3
  dec a := (decF g_IIII (aCell a 0 0), decF g_IIIII (aCell a 0 1), decF g_III (aCell a 0 2), decF g_II (aCell a 0 3), dInt (aCell a 0 4), dInt (aCell a 0 5), dInt (aCell a 0 6), dInt (aCell a 0 7), dInt (aCell a 1 0), dInt (aCell a 1 1), dInt (aCell a 1 2), dInt (aCell a 1 3), dInt (aCell a 1 4), dInt (aCell a 1 5), dInt (aCell a 1 6), decF g_II (aCell a 1 7), dInt (aCell a 2 0), dInt (aCell a 2 1), dInt (aCell a 2 2), decF g_I (aCell a 2 3))
  pre := fun ⟨a0_0, a0_1, a0_2, a0_3, a0_4, a0_5, a0_6, a0_7, a1_0, a1_1, a1_2, a1_3, a1_4, a1_5, a1_6, a1_7, a2_0, a2_1, a2_2, a2_3⟩ => (r11 a0_0 a0_1 a0_2 a0_3 a0_4 a0_5 a0_6 a0_7 a1_0 a1_1 a1_2 a1_3 a1_4 a1_5 a1_6 a1_7 a2_0 a2_1 a2_2 a2_3).isSome = true
  res := fun ⟨a0_0, a0_1, a0_2, a0_3, a0_4, a0_5, a0_6, a0_7, a1_0, a1_1, a1_2, a1_3, a1_4, a1_5, a1_6, a1_7, a2_0, a2_1, a2_2, a2_3⟩ => u11 ((r11 a0_0 a0_1 a0_2 a0_3 a0_4 a0_5 a0_6 a0_7 a1_0 a1_1 a1_2 a1_3 a1_4 a1_5 a1_6 a1_7 a2_0 a2_1 a2_2 a2_3).getD default)
  al := false
theorem TP11 (c0 c1 c2 c3 c4 c5 c6 c7 c8 c9 c10 c11 c12 c13 c14 c15 c16 c17 c18 c19 : D) : T11.sp.pre [.agg [c0, c1, c2, c3, c4, c5, c6, c7], .agg [c8, c9, c10, c11, c12, c13, c14, c15], .agg [c16, c17, c18, c19]] = (eqvArgs [.agg [c0, c1, c2, c3, c4, c5, c6, c7], .agg [c8, c9, c10, c11, c12, c13, c14, c15], .agg [c16, c17, c18, c19]] (w11 (decF g_IIII c0) (decF g_IIIII c1) (decF g_III c2) (decF g_II c3) (dInt c4) (dInt c5) (dInt c6) (dInt c7) (dInt c8) (dInt c9) (dInt c10) (dInt c11) (dInt c12) (dInt c13) (dInt c14) (decF g_II c15) (dInt c16) (dInt c17) (dInt c18) (decF g_I c19)) ∧ (r11 (decF g_IIII c0) (decF g_IIIII c1) (decF g_III c2) (decF g_II c3) (dInt c4) (dInt c5) (dInt c6) (dInt c7) (dInt c8) (dInt c9) (dInt c10) (dInt c11) (dInt c12) (dInt c13) (dInt c14) (decF g_II c15) (dInt c16) (dInt c17) (dInt c18) (decF g_I c19)).isSome = true) := (rfl)
theorem TR11 (c0 c1 c2 c3 c4 c5 c6 c7 c8 c9 c10 c11 c12 c13 c14 c15 c16 c17 c18 c19 : D) : T11.sp.res [.agg [c0, c1, c2, c3, c4, c5, c6, c7], .agg [c8, c9, c10, c11, c12, c13, c14, c15], .agg [c16, c17, c18, c19]] = u11 ((r11 (decF g_IIII c0) (decF g_IIIII c1) (decF g_III c2) (decF g_II c3) (dInt c4) (dInt c5) (dInt c6) (dInt c7) (dInt c8) (dInt c9) (dInt c10) (dInt c11) (dInt c12) (dInt c13) (dInt c14) (decF g_II c15) (dInt c16) (dInt c17) (dInt c18) (decF g_I c19)).getD default) := (rfl)
theorem TA11 : T11.sp.alias = false := (rfl)
def tb11 : Fns := lk [(12, T12.sp), (13, T13.sp), (15, T15.sp), (18, T18.sp), (20, T20.sp), (21, T21.sp), (29, T29.sp), (30, T30.sp), (31, T31.sp), (52, T52.sp), (53, T53.sp), (54, T54.sp), (55, T55.sp), (56, T56.sp), (57, T57.sp), (58, T58.sp)]
theorem tb11_ok : FnsOk Tryd.prog tb11 := .cons f12 (.cons f13 (.cons f15 (.cons f18 (.cons f20 (.cons f21 (.cons f29 (.cons f30 (.cons f31 (.cons f52 (.cons f53 (.cons f54 (.cons f55 (.cons f56 (.cons f57 (.cons f58 (FnsOk.nil))))))))))))))))
theorem tb11_12 : tb11 12 = some T12.sp := rfl
theorem tb11_13 : tb11 13 = some T13.sp := rfl
theorem tb11_15 : tb11 15 = some T15.sp := rfl
theorem tb11_18 : tb11 18 = some T18.sp := rfl
theorem tb11_20 : tb11 20 = some T20.sp := rfl
theorem tb11_21 : tb11 21 = some T21.sp := rfl
theorem tb11_29 : tb11 29 = some T29.sp := rfl
theorem tb11_30 : tb11 30 = some T30.sp := rfl
theorem tb11_31 : tb11 31 = some T31.sp := rfl
theorem tb11_52 : tb11 52 = some T52.sp := rfl
theorem tb11_53 : tb11 53 = some T53.sp := rfl
theorem tb11_54 : tb11 54 = some T54.sp := rfl
theorem tb11_55 : tb11 55 = some T55.sp := rfl
theorem tb11_56 : tb11 56 = some T56.sp := rfl
theorem tb11_57 : tb11 57 = some T57.sp := rfl
theorem tb11_58 : tb11 58 = some T58.sp := rfl
attribute [go_sem] TP11 TR11 TA11 w11 u11
section
attribute [local go_sem] T11 tb11_12 tb11_13 tb11_15 tb11_18 tb11_20 tb11_21 tb11_29 tb11_30 tb11_31 tb11_52 tb11_53 tb11_54 tb11_55 tb11_56 tb11_57 tb11_58 Tryd.results11
theorem v11 : Valid Tryd.prog 11 T11.sp := by
  refine valid_t (fn := Tryd.f11) (n := 189) ty_ok tb11_ok Tryd.func11 rfl Tryd.ntmps11 ?_
  rintro ⟨a0_0, a0_1, a0_2, a0_3, a0_4, a0_5, a0_6, a0_7, a1_0, a1_1, a1_2, a1_3, a1_4, a1_5, a1_6, a1_7, a2_0, a2_1, a2_2, a2_3⟩ hx
  obtain ⟨r, hr⟩ := Option.isSome_iff_exists.1 (show (r11 a0_0 a0_1 a0_2 a0_3 a0_4 a0_5 a0_6 a0_7 a1_0 a1_1 a1_2 a1_3 a1_4 a1_5 a1_6 a1_7 a2_0 a2_1 a2_2 a2_3).isSome = true from hx)
  have hres : T11.res (a0_0, a0_1, a0_2, a0_3, a0_4, a0_5, a0_6, a0_7, a1_0, a1_1, a1_2, a1_3, a1_4, a1_5, a1_6, a1_7, a2_0, a2_1, a2_2, a2_3) = u11 r := by simp only [T11, hr, Option.getD_some]
  refine ⟨Nat.le_of_ble_eq_true rfl, fun stop S => ?_⟩
  rw [hres] at S
  unfold r11 at hr
  refine S.gx [4, 5, 13, 16, 17, 20, 21] ?_
  obtain ⟨v1, hv1, hr⟩ := of_bind0 hr
  try simp only [hv1, Option.getD_some, Option.isSome_some, true_and, and_assoc]
  repeat refine gA ?_
  refine ⟨fun hc => ?_, fun hc => ?_⟩
  · replace hr := ifP hr hc
    repeat refine gA ?_
    obtain rfl := Option.some.inj hr
    exact lf
  · replace hr := ifN hr hc
    obtain ⟨v2, hv2, hr⟩ := of_bind0 hr
    obtain ⟨hg20, hr⟩ := of_guard0 hr
    obtain ⟨hg21, hr⟩ := of_guard0 hr
    obtain ⟨hg22, hr⟩ := of_guard0 hr
    obtain ⟨hg23, hr⟩ := of_guard0 hr
    try simp only [hv2, Option.getD_some, Option.isSome_some, true_and, and_assoc]
    repeat (first | refine gG hg20 ?_ | refine gG hg21 ?_ | refine gG hg22 ?_ | refine gG hg23 ?_ | refine gA ?_ | refine gB ?_)
    refine ⟨fun hc => ?_, fun hc => ?_⟩
    · replace hr := ifP hr hc
      repeat refine gA ?_
      refine S.prune [] ?_
      refine S.gx [5, 13, 16, 17, 20, 21] ?_
      repeat refine gA ?_
      repeat refine gA ?_
      obtain rfl := Option.some.inj hr
      exact lf
    · replace hr := ifN hr hc
      repeat refine gA ?_
      refine S.prune [3, 4, 5] ?_
      refine S.gx [4, 13, 16, 17, 20, 21] ?_
      repeat refine gA ?_
      obtain ⟨v3, hv3, hr⟩ := of_bind0 hr
      try simp only [hv3, Option.getD_some, Option.isSome_some, true_and, and_assoc]
      repeat refine gA ?_
      refine ⟨fun hc => ?_, fun hc => ?_⟩
      · replace hr := ifP hr hc
        repeat refine gA ?_
        obtain rfl := Option.some.inj hr
        exact lf
      · replace hr := ifN hr hc
        repeat refine gA ?_
        refine S.sees [3, 4, 5, 7, 8, 10] [(3, 3), (4, 4), (5, 5), (7, 7), (8, 8)] [] ?_ (Stop.iter S (fun s1 => ⟨[(3, .c (.ref 3 0)), (4, .c (.ref 4 0)), (5, .c (.ref 5 0)), (7, .c (.ref 7 0)), (8, .c (.ref 8 0)), (10, .c (.d (.int .i64 s1.1)))], [(3, [.d (encF 4 d_IIII a0_0), .d (encF 5 d_IIIII a0_1), .d (encF 3 d_III a0_2), .d (encF 2 d_II a0_3), .d (.int .i64 a0_4), .d (.int .i64 a0_5), .d (.int .i64 a0_6), .d (.int .i64 a0_7)]), (4, [.d (.int .i64 a1_0), .d (.int .i64 a1_1), .d (.int .i64 a1_2), .d (.int .i64 a1_3), .d (.int .i64 a1_4), .d (.int .i64 a1_5), .d (.int .i64 a1_6), .d (encF 2 d_II a1_7)]), (5, [.d (.int .i64 a2_0), .d (.int .i64 a2_1), .d (.int .i64 a2_2), .d (encF 1 d_I a2_3)]), (7, [.d (.int .i64 s1.2.1), .d (.int .i64 s1.2.2.1), .d (.int .i64 s1.2.2.2.1), .d (.int .i64 s1.2.2.2.2.1), .d (.int .i64 s1.2.2.2.2.2.1), .d (.int .i64 s1.2.2.2.2.2.2.1), .d (.int .i64 s1.2.2.2.2.2.2.2.1)]), (8, [.d (.int .i64 s1.2.2.2.2.2.2.2.2.1), .d (.int .i64 s1.2.2.2.2.2.2.2.2.2.1), .d (.int .i64 s1.2.2.2.2.2.2.2.2.2.2.1), .d (.int .i64 s1.2.2.2.2.2.2.2.2.2.2.2.1), .d (.int .i64 s1.2.2.2.2.2.2.2.2.2.2.2.2.1), .d (.int .i64 s1.2.2.2.2.2.2.2.2.2.2.2.2.2.1), .d (.int .i64 s1.2.2.2.2.2.2.2.2.2.2.2.2.2.2.1), .d (.int .i64 s1.2.2.2.2.2.2.2.2.2.2.2.2.2.2.2.1), .d (.int .i64 s1.2.2.2.2.2.2.2.2.2.2.2.2.2.2.2.2.1), .d (.int .i64 s1.2.2.2.2.2.2.2.2.2.2.2.2.2.2.2.2.2.1), .d (.int .i64 s1.2.2.2.2.2.2.2.2.2.2.2.2.2.2.2.2.2.2.1), .d (.int .i64 s1.2.2.2.2.2.2.2.2.2.2.2.2.2.2.2.2.2.2.2.1), .d (.int .i64 s1.2.2.2.2.2.2.2.2.2.2.2.2.2.2.2.2.2.2.2.2.1), .d (.int .i64 s1.2.2.2.2.2.2.2.2.2.2.2.2.2.2.2.2.2.2.2.2.2)])], []⟩) (b11_1 a0_0 a0_1 a0_2 a0_3 a0_4 a0_5 a0_6 a0_7 a1_7 a2_0 a2_1 a2_2 a2_3) (fun q => q = r) hr rfl ?_)
        · exact lf
        · intro s1 hr
          unfold b11_1 at hr
          refine S.gx [4, 5, 13, 16, 17, 20, 21] ?_
          repeat refine gA ?_
          refine ⟨fun hc => ?_, fun hc => ?_⟩
          · replace hr := ifP1 hr hc
            obtain ⟨hg16, hr⟩ := of_guard1 hr
            obtain ⟨v4, hv4, hr⟩ := of_bind1 hr
            obtain ⟨hg17, hr⟩ := of_guard1 hr
            obtain ⟨hg18, hr⟩ := of_guard1 hr
            obtain ⟨hg19, hr⟩ := of_guard1 hr
            obtain ⟨v5, hv5, hr⟩ := of_bind1 hr
            try simp only [hv4, hv5, Option.getD_some, Option.isSome_some, true_and, and_assoc]
            repeat refine gA ?_
            refine S.prune [3, 4, 5, 7, 8, 10, 11] ?_
            refine S.gx [4, 5, 16, 17, 20, 21] ?_
            obtain ⟨v6, hv6, hr⟩ := of_bind1 hr
            obtain ⟨v7, hv7, hr⟩ := of_bind1 hr
            try simp only [hv6, hv7, Option.getD_some, Option.isSome_some, true_and, and_assoc]
            repeat refine gA ?_
            obtain ⟨hg12, hr⟩ := of_guard1 hr
            obtain ⟨v8, hv8, hr⟩ := of_bind1 hr
            obtain ⟨hg13, hr⟩ := of_guard1 hr
            obtain ⟨hg14, hr⟩ := of_guard1 hr
            obtain ⟨hg15, hr⟩ := of_guard1 hr
            try simp only [hv6, hv8, Option.getD_some, Option.isSome_some, true_and, and_assoc]
            repeat (first | refine gG hg13 ?_ | refine gG hg14 ?_ | refine gG hg15 ?_ | refine gA ?_ | refine gB ?_)
            refine ⟨fun hc => ?_, fun hc => ?_⟩
            · replace hr := ifP1 hr hc
              repeat refine gA ?_
              refine S.prune [] ?_
              refine S.gx [4, 5, 13, 17, 20, 21] ?_
              repeat refine gA ?_
              repeat refine gA ?_
              have hr := of_out0 hr
              obtain rfl := Option.some.inj hr
              exact lf
            · replace hr := ifN1 hr hc
              repeat refine gA ?_
              refine S.prune [3, 4, 5, 7, 8, 10, 12, 14] ?_
              refine S.gx [4, 5, 13, 16, 20, 21] ?_
              obtain ⟨v9, hv9, hr⟩ := of_bind1 hr
              try simp only [hv6, hv9, Option.getD_some, Option.isSome_some, true_and, and_assoc]
              repeat refine gA ?_
              obtain ⟨v10, hv10, hr⟩ := of_bind1 hr
              obtain ⟨hg11, hr⟩ := of_guard1 hr
              try simp only [hv6, hv10, Option.getD_some, Option.isSome_some, true_and, and_assoc]
              repeat (first | refine gG hg11 ?_ | refine gA ?_ | refine gB ?_)
              refine ⟨fun hc => ?_, fun hc => ?_⟩
              · replace hr := ifP1 hr hc
                repeat refine gA ?_
                refine S.prune [] ?_
                refine S.gx [4, 5, 13, 16, 17, 21] ?_
                repeat refine gA ?_
                repeat refine gA ?_
                have hr := of_out0 hr
                obtain rfl := Option.some.inj hr
                exact lf
              · replace hr := ifN1 hr hc
                repeat refine gA ?_
                refine S.prune [3, 4, 5, 7, 8, 10, 12, 14] ?_
                refine S.gx [4, 5, 13, 16, 17, 20] ?_
                repeat refine gA ?_
                repeat refine gA ?_
                refine S.sees [3, 4, 5, 7, 8, 10] [(3, 3), (4, 4), (5, 5), (7, 7), (8, 8)] [] ?_ hr
                exact lf
          · replace hr := ifN1 hr hc
            repeat refine gA ?_
            have hr := of_out0 hr
            repeat refine gA ?_
            obtain rfl := Option.some.inj hr
            exact lf
theorem f11 : FnFact Tryd.prog 11 T11.sp := ⟨⟨Tryd.f11, Tryd.func11, by decide, rfl⟩, v11⟩
end
end Go.Proofs.YtfkmbdfajpdjjaaDoor

/- Contracts of functions, written by wip/dec. -/
import Derived.Test.YtfkmbdfajpdjjaaGreatDoorF00
import Derived.Test.YtfkmbdfajpdjjaaGreatDoorF05
import Derived.Test.YtfkmbdfajpdjjaaGreatDoorF06
import Derived.Test.YtfkmbdfajpdjjaaGreatDoorF07
import Derived.Test.YtfkmbdfajpdjjaaGreatDoorF08
import Derived.Test.YtfkmbdfajpdjjaaGreatDoorF10
set_option linter.unusedVariables false
set_option linter.unusedSimpArgs false
set_option maxHeartbeats 4000000
set_option maxRecDepth 20000
namespace Go.Proofs.YtfkmbdfajpdjjaaGreatDoor
open Go.Abs

theorem stop_join4 {σ : Type} {k : List K} {stop : List K → St → Prop} (head : σ → St) (R : σ → Prop) {goal : Prop} (main : (∀ s, R s → stop k (head s)) → goal) (j : ∀ s, R s → stop k (head s)) : goal := main j
/- martensite/martensitelaw04.SteelProfiles -/
def j4_3 (a0_0 : List (Int × Int × Int × Int)) (a0_1 : List (Int × Int × Int × Int × Int)) (a0_2 : List (Int × Int × Int)) (a0_3 : List (Int × Int)) (a0_4 : Int) (a0_5 : Int) (a0_6 : Int) (a0_7 : Int) (a1_0 : Int) (a1_1 : Int) (a1_2 : Int) (a1_3 : Int) (a1_4 : Int) (a1_5 : Int) (a1_6 : Int) (a1_7 : Int) (a1_8 : Int) (a1_9 : Int) (a1_10 : Int) (a1_11 : Int) (a1_12 : Int) (a1_13 : Int) (a2 : List ((List (Int × Int)))) (v8 : (List (Int × Int)) × Int) : (Int) → Option (Bool) := fun s3 =>
  if (s3 != 0) = true then
   some ((v8.2 == s3) && ((v8.1.length : Int) == 0))
   else if (v8.2 == 0) = true → (r25 a0_0 a0_1 a0_2 a0_3 a0_4 a0_5 a0_6 a0_7 a1_0 a1_1 a1_2 a1_3 a1_4 a1_5 a1_6 a1_7 a1_8 a1_9 a1_10 a1_11 a1_12 a1_13 a2).isSome = true then
    if (v8.2 == 0) = true → (r24 v8.1 ((r25 a0_0 a0_1 a0_2 a0_3 a0_4 a0_5 a0_6 a0_7 a1_0 a1_1 a1_2 a1_3 a1_4 a1_5 a1_6 a1_7 a1_8 a1_9 a1_10 a1_11 a1_12 a1_13 a2).getD default)).isSome = true then
     some ((v8.2 == 0) && ((r24 v8.1 ((r25 a0_0 a0_1 a0_2 a0_3 a0_4 a0_5 a0_6 a0_7 a1_0 a1_1 a1_2 a1_3 a1_4 a1_5 a1_6 a1_7 a1_8 a1_9 a1_10 a1_11 a1_12 a1_13 a2).getD default)).getD default))
     else none
    else none
def j4_2 (a0_0 : List (Int × Int × Int × Int)) (a0_1 : List (Int × Int × Int × Int × Int)) (a0_2 : List (Int × Int × Int)) (a0_3 : List (Int × Int)) (a0_4 : Int) (a0_5 : Int) (a0_6 : Int) (a0_7 : Int) (a1_0 : Int) (a1_1 : Int) (a1_2 : Int) (a1_3 : Int) (a1_4 : Int) (a1_5 : Int) (a1_6 : Int) (a1_7 : Int) (a1_8 : Int) (a1_9 : Int) (a1_10 : Int) (a1_11 : Int) (a1_12 : Int) (a1_13 : Int) (a2 : List ((List (Int × Int)))) (v8 : (List (Int × Int)) × Int) : (Int) → Option (Bool) := fun s2 =>
  if (s2 == 0) = true then
   (r23 a2).bind fun v12 =>
    j4_3 a0_0 a0_1 a0_2 a0_3 a0_4 a0_5 a0_6 a0_7 a1_0 a1_1 a1_2 a1_3 a1_4 a1_5 a1_6 a1_7 a1_8 a1_9 a1_10 a1_11 a1_12 a1_13 a2 v8 v12
   else j4_3 a0_0 a0_1 a0_2 a0_3 a0_4 a0_5 a0_6 a0_7 a1_0 a1_1 a1_2 a1_3 a1_4 a1_5 a1_6 a1_7 a1_8 a1_9 a1_10 a1_11 a1_12 a1_13 a2 v8 s2
def b4_1 (a0_0 : List (Int × Int × Int × Int)) (a0_1 : List (Int × Int × Int × Int × Int)) (a0_2 : List (Int × Int × Int)) (a0_3 : List (Int × Int)) (a0_4 : Int) (a0_5 : Int) (a0_6 : Int) (a0_7 : Int) (a1_0 : Int) (a1_1 : Int) (a1_2 : Int) (a1_3 : Int) (a1_4 : Int) (a1_5 : Int) (a1_6 : Int) (a1_7 : Int) (a1_8 : Int) (a1_9 : Int) (a1_10 : Int) (a1_11 : Int) (a1_12 : Int) (a1_13 : Int) (a2 : List ((List (Int × Int)))) : (Int) → Ctl (Int) (Bool) := fun s1 =>
  if (decide (s1 < (a2.length : Int))) = true then
   if 0 ≤ s1 ∧ s1 < (a2.length : Int) then
    if (decide (((a2.getD s1.toNat default).length : Int) > 15)) = true → 0 ≤ s1 ∧ s1 < (a2.length : Int) then
     if ((decide (((a2.getD s1.toNat default).length : Int) > 15)) && (!(decide (((a2.getD s1.toNat default).length : Int) ≤ 200)))) = true → 0 ≤ s1 ∧ s1 < (a2.length : Int) then
      if ((decide (((a2.getD s1.toNat default).length : Int) > 15)) && ((decide (((a2.getD s1.toNat default).length : Int) ≤ 200)) || (decide (((a2.getD s1.toNat default).length : Int) > 202)))) = true then
       .out (some true)
       else .next (IntKind.i64.wrap (s1 + 1))
      else .out none
     else .out none
    else .out none
   else .out ((r9 a0_0 a0_1 a0_2 a0_3 a0_4 a0_5 a0_6 a0_7).bind fun v6 =>
    (r21 a2).bind fun v7 =>
     (r20 v6.1 v6.2.1 v6.2.2.1 v6.2.2.2.1 v6.2.2.2.2.1 v6.2.2.2.2.2.1 v6.2.2.2.2.2.2.1 v6.2.2.2.2.2.2.2 a1_0 a1_1 a1_2 a1_3 a1_4 a1_5 a1_6 a1_7 a1_8 a1_9 a1_10 a1_11 a1_12 a1_13 v7).bind fun v8 =>
      (r11 a0_0 a0_1 a0_2 a0_3 a0_4 a0_5 a0_6 a0_7).bind fun v9 =>
       if (v9 == 0) = true then
        (r22 a1_0 a1_1 a1_2 a1_3 a1_4 a1_5 a1_6 a1_7 a1_8 a1_9 a1_10 a1_11 a1_12 a1_13).bind fun v13 =>
         j4_2 a0_0 a0_1 a0_2 a0_3 a0_4 a0_5 a0_6 a0_7 a1_0 a1_1 a1_2 a1_3 a1_4 a1_5 a1_6 a1_7 a1_8 a1_9 a1_10 a1_11 a1_12 a1_13 a2 v8 v13
        else j4_2 a0_0 a0_1 a0_2 a0_3 a0_4 a0_5 a0_6 a0_7 a1_0 a1_1 a1_2 a1_3 a1_4 a1_5 a1_6 a1_7 a1_8 a1_9 a1_10 a1_11 a1_12 a1_13 a2 v8 v9)
def r4 (a0_0 : List (Int × Int × Int × Int)) (a0_1 : List (Int × Int × Int × Int × Int)) (a0_2 : List (Int × Int × Int)) (a0_3 : List (Int × Int)) (a0_4 : Int) (a0_5 : Int) (a0_6 : Int) (a0_7 : Int) (a1_0 : Int) (a1_1 : Int) (a1_2 : Int) (a1_3 : Int) (a1_4 : Int) (a1_5 : Int) (a1_6 : Int) (a1_7 : Int) (a1_8 : Int) (a1_9 : Int) (a1_10 : Int) (a1_11 : Int) (a1_12 : Int) (a1_13 : Int) (a2 : List ((List (Int × Int)))) : Option (Bool) :=
  (r6).bind fun v1 =>
   if (!v1) = true then
    some false
    else (r7 a0_0 a0_1 a0_2 a0_3 a0_4 a0_5 a0_6 a0_7).bind fun v2 =>
     if (((!v2) || ((decide ((a2.length : Int) > 6)) && (decide ((a2.length : Int) ≤ 12)))) || (decide ((a2.length : Int) > 14))) = true then
      some true
      else iterC (b4_1 a0_0 a0_1 a0_2 a0_3 a0_4 a0_5 a0_6 a0_7 a1_0 a1_1 a1_2 a1_3 a1_4 a1_5 a1_6 a1_7 a1_8 a1_9 a1_10 a1_11 a1_12 a1_13 a2) 1000000000 0
def T4 : TSpec qA44 := mkT qE44 qd44 (fun ⟨a0_0, a0_1, a0_2, a0_3, a0_4, a0_5, a0_6, a0_7, a1_0, a1_1, a1_2, a1_3, a1_4, a1_5, a1_6, a1_7, a1_8, a1_9, a1_10, a1_11, a1_12, a1_13, a2⟩ => r4 a0_0 a0_1 a0_2 a0_3 a0_4 a0_5 a0_6 a0_7 a1_0 a1_1 a1_2 a1_3 a1_4 a1_5 a1_6 a1_7 a1_8 a1_9 a1_10 a1_11 a1_12 a1_13 a2) qu3 false
theorem TP4 (c0 c1 c2 c3 c4 c5 c6 c7 c8 c9 c10 c11 c12 c13 c14 c15 c16 c17 c18 c19 c20 c21 c22 : D) : T4.sp.pre [.agg [c0, c1, c2, c3, c4, c5, c6, c7], .agg [c8, c9, c10, c11, c12, c13, c14, c15, c16, c17, c18, c19, c20, c21], .c c22] = (eqvArgs (qt44 c0 c1 c2 c3 c4 c5 c6 c7 c8 c9 c10 c11 c12 c13 c14 c15 c16 c17 c18 c19 c20 c21 c22) (qp44 qw44 c0 c1 c2 c3 c4 c5 c6 c7 c8 c9 c10 c11 c12 c13 c14 c15 c16 c17 c18 c19 c20 c21 c22) ∧ (qp44 r4 c0 c1 c2 c3 c4 c5 c6 c7 c8 c9 c10 c11 c12 c13 c14 c15 c16 c17 c18 c19 c20 c21 c22).isSome = true) := (rfl)
theorem TR4 (c0 c1 c2 c3 c4 c5 c6 c7 c8 c9 c10 c11 c12 c13 c14 c15 c16 c17 c18 c19 c20 c21 c22 : D) : T4.sp.res [.agg [c0, c1, c2, c3, c4, c5, c6, c7], .agg [c8, c9, c10, c11, c12, c13, c14, c15, c16, c17, c18, c19, c20, c21], .c c22] = qu3 ((qp44 r4 c0 c1 c2 c3 c4 c5 c6 c7 c8 c9 c10 c11 c12 c13 c14 c15 c16 c17 c18 c19 c20 c21 c22).getD default) := (rfl)
theorem TA4 : T4.sp.alias = false := (rfl)
def tb4 : Fns := lk [(6, T6.sp), (7, T7.sp), (9, T9.sp), (11, T11.sp), (20, T20.sp), (21, T21.sp), (22, T22.sp), (23, T23.sp), (24, T24.sp), (25, T25.sp)]
theorem tb4_ok : FnsOk Tryz.prog tb4 := .cons f6 (.cons f7 (.cons f9 (.cons f11 (.cons f20 (.cons f21 (.cons f22 (.cons f23 (.cons f24 (.cons f25 (FnsOk.nil))))))))))
theorem tb4_6 : tb4 6 = some T6.sp := rfl
theorem tb4_7 : tb4 7 = some T7.sp := rfl
theorem tb4_9 : tb4 9 = some T9.sp := rfl
theorem tb4_11 : tb4 11 = some T11.sp := rfl
theorem tb4_20 : tb4 20 = some T20.sp := rfl
theorem tb4_21 : tb4 21 = some T21.sp := rfl
theorem tb4_22 : tb4 22 = some T22.sp := rfl
theorem tb4_23 : tb4 23 = some T23.sp := rfl
theorem tb4_24 : tb4 24 = some T24.sp := rfl
theorem tb4_25 : tb4 25 = some T25.sp := rfl
attribute [go_sem] TP4 TR4 TA4
section
attribute [local go_sem] T4 tb4_6 tb4_7 tb4_9 tb4_11 tb4_20 tb4_21 tb4_22 tb4_23 tb4_24 tb4_25 Tryz.results4
theorem v4 : Valid Tryz.prog 4 T4.sp := by
  refine valid_t (fn := Tryz.f4) (n := 98) ty_ok tb4_ok Tryz.func4 rfl Tryz.ntmps4 ?_
  rintro ⟨a0_0, a0_1, a0_2, a0_3, a0_4, a0_5, a0_6, a0_7, a1_0, a1_1, a1_2, a1_3, a1_4, a1_5, a1_6, a1_7, a1_8, a1_9, a1_10, a1_11, a1_12, a1_13, a2⟩ hx
  obtain ⟨r, hr⟩ := Option.isSome_iff_exists.1 (show (r4 a0_0 a0_1 a0_2 a0_3 a0_4 a0_5 a0_6 a0_7 a1_0 a1_1 a1_2 a1_3 a1_4 a1_5 a1_6 a1_7 a1_8 a1_9 a1_10 a1_11 a1_12 a1_13 a2).isSome = true from hx)
  have hres : T4.res (a0_0, a0_1, a0_2, a0_3, a0_4, a0_5, a0_6, a0_7, a1_0, a1_1, a1_2, a1_3, a1_4, a1_5, a1_6, a1_7, a1_8, a1_9, a1_10, a1_11, a1_12, a1_13, a2) = qu3 r := by simp only [T4, mkT, hr, Option.getD_some]
  refine ⟨Nat.le_of_ble_eq_true rfl, fun stop S => ?_⟩
  rw [hres] at S
  unfold r4 at hr
  refine S.gx [9, 14, 16] ?_
  obtain ⟨v1, hv1, hr⟩ := of_bind0 hr
  try simp only [hv1, Option.getD_some, Option.isSome_some, true_and, and_assoc]
  repeat refine gA ?_
  refine ⟨fun hc => ?_, fun hc => ?_⟩
  · replace hr := ifP hr hc
    repeat refine gA ?_
    obtain rfl := Option.some.inj hr
    exact lf
  · replace hr := ifN hr hc
    obtain ⟨v2, hv2, hr⟩ := of_bind0 hr
    try simp only [hv2, Option.getD_some, Option.isSome_some, true_and, and_assoc]
    repeat (first | refine gA ?_ | refine gB ?_)
    refine ⟨fun hc => ?_, fun hc => ?_⟩
    · replace hr := ifP hr hc
      repeat refine gA ?_
      obtain rfl := Option.some.inj hr
      exact lf
    · replace hr := ifN hr hc
      repeat refine gA ?_
      refine S.sees [2, 3, 4, 7] [(3, 3), (4, 4)] [] ?_ (Stop.iter S (fun s1 => ⟨[(2, .c (.d (encF 1 d_LIIE a2))), (3, .c (.ref 3 0)), (4, .c (.ref 4 0)), (7, .c (.d (.int .i64 s1)))], [(3, [.d (encF 4 d_IIII a0_0), .d (encF 5 d_IIIII a0_1), .d (encF 3 d_III a0_2), .d (encF 2 d_II a0_3), .d (.int .i64 a0_4), .d (.int .i64 a0_5), .d (.int .i64 a0_6), .d (.int .i64 a0_7)]), (4, [.d (.int .i64 a1_0), .d (.int .i64 a1_1), .d (.int .i64 a1_2), .d (.int .i64 a1_3), .d (.int .i64 a1_4), .d (.int .i64 a1_5), .d (.int .i64 a1_6), .d (.int .i64 a1_7), .d (.int .i64 a1_8), .d (.int .i64 a1_9), .d (.int .i64 a1_10), .d (.int .i64 a1_11), .d (.int .i64 a1_12), .d (.int .i64 a1_13)])], []⟩) (b4_1 a0_0 a0_1 a0_2 a0_3 a0_4 a0_5 a0_6 a0_7 a1_0 a1_1 a1_2 a1_3 a1_4 a1_5 a1_6 a1_7 a1_8 a1_9 a1_10 a1_11 a1_12 a1_13 a2) (fun q => q = r) hr rfl ?_)
      · exact lf
      · intro s1 hr
        unfold b4_1 at hr
        refine S.gx [9, 14, 16] ?_
        repeat refine gA ?_
        refine ⟨fun hc => ?_, fun hc => ?_⟩
        · replace hr := ifP1 hr hc
          obtain ⟨hg3, hr⟩ := of_guard1 hr
          obtain ⟨hg4, hr⟩ := of_guard1 hr
          obtain ⟨hg5, hr⟩ := of_guard1 hr
          repeat (first | refine gG hg4 ?_ | refine gG hg5 ?_ | refine gA ?_ | refine gB ?_)
          refine ⟨fun hc => ?_, fun hc => ?_⟩
          · replace hr := ifP1 hr hc
            repeat refine gA ?_
            refine S.prune [] ?_
            refine S.gx [14, 16] ?_
            repeat refine gA ?_
            repeat refine gA ?_
            have hr := of_out0 hr
            obtain rfl := Option.some.inj hr
            exact lf
          · replace hr := ifN1 hr hc
            repeat refine gA ?_
            refine S.sees [2, 3, 4, 7] [(3, 3), (4, 4)] [] ?_ hr
            exact lf
        · replace hr := ifN1 hr hc
          repeat refine gA ?_
          have hr := of_out0 hr
          obtain ⟨v6, hv6, hr⟩ := of_bind0 hr
          obtain ⟨v7, hv7, hr⟩ := of_bind0 hr
          obtain ⟨v8, hv8, hr⟩ := of_bind0 hr
          obtain ⟨v9, hv9, hr⟩ := of_bind0 hr
          try simp only [hv6, hv7, hv8, hv9, Option.getD_some, Option.isSome_some, true_and, and_assoc]
          repeat refine gA ?_
          apply stop_join4 (stop := stop) (fun s2 => ⟨[(2, .c (.d (encF 1 d_LIIE a2))), (3, .c (.ref 3 0)), (4, .c (.ref 4 0)), (8, .c (.own 65)), (9, .c (.d (.int .i64 v8.2))), (10, .c (.d (.int .i64 s2)))], [(3, [.d (encF 4 d_IIII a0_0), .d (encF 5 d_IIIII a0_1), .d (encF 3 d_III a0_2), .d (encF 2 d_II a0_3), .d (.int .i64 a0_4), .d (.int .i64 a0_5), .d (.int .i64 a0_6), .d (.int .i64 a0_7)]), (4, [.d (.int .i64 a1_0), .d (.int .i64 a1_1), .d (.int .i64 a1_2), .d (.int .i64 a1_3), .d (.int .i64 a1_4), .d (.int .i64 a1_5), .d (.int .i64 a1_6), .d (.int .i64 a1_7), .d (.int .i64 a1_8), .d (.int .i64 a1_9), .d (.int .i64 a1_10), .d (.int .i64 a1_11), .d (.int .i64 a1_12), .d (.int .i64 a1_13)])], [(65, .owned (encF 2 d_II v8.1))]⟩) (fun s2 => j4_2 a0_0 a0_1 a0_2 a0_3 a0_4 a0_5 a0_6 a0_7 a1_0 a1_1 a1_2 a1_3 a1_4 a1_5 a1_6 a1_7 a1_8 a1_9 a1_10 a1_11 a1_12 a1_13 a2 v8 s2 = some r)
          · intro J2
            refine ⟨fun hc => ?_, fun hc => ?_⟩
            · replace hr := ifP hr hc
              obtain ⟨v13, hv13, hr⟩ := of_bind0 hr
              try simp only [hv13, Option.getD_some, Option.isSome_some, true_and, and_assoc]
              repeat refine gA ?_
              refine S.sees [2, 3, 4, 8, 9, 10] [(3, 3), (4, 4)] [(65, 65)] ?_ (J2 _ hr)
              exact lf
            · replace hr := ifN hr hc
              repeat refine gA ?_
              refine S.sees [2, 3, 4, 8, 9, 10] [(3, 3), (4, 4)] [(65, 65)] ?_ (J2 _ hr)
              exact lf
          · intro s2 hr
            unfold j4_2 at hr
            refine S.gx [9, 14, 16] ?_
            repeat refine gA ?_
            refine S.gx [9, 16] ?_
            repeat refine gA ?_
            repeat refine gA ?_
            apply stop_join4 (stop := stop) (fun s3 => ⟨[(2, .c (.d (encF 1 d_LIIE a2))), (3, .c (.ref 3 0)), (4, .c (.ref 4 0)), (8, .c (.own 65)), (9, .c (.d (.int .i64 v8.2))), (10, .c (.d (.int .i64 s3)))], [(3, [.d (encF 4 d_IIII a0_0), .d (encF 5 d_IIIII a0_1), .d (encF 3 d_III a0_2), .d (encF 2 d_II a0_3), .d (.int .i64 a0_4), .d (.int .i64 a0_5), .d (.int .i64 a0_6), .d (.int .i64 a0_7)]), (4, [.d (.int .i64 a1_0), .d (.int .i64 a1_1), .d (.int .i64 a1_2), .d (.int .i64 a1_3), .d (.int .i64 a1_4), .d (.int .i64 a1_5), .d (.int .i64 a1_6), .d (.int .i64 a1_7), .d (.int .i64 a1_8), .d (.int .i64 a1_9), .d (.int .i64 a1_10), .d (.int .i64 a1_11), .d (.int .i64 a1_12), .d (.int .i64 a1_13)])], [(65, .owned (encF 2 d_II v8.1))]⟩) (fun s3 => j4_3 a0_0 a0_1 a0_2 a0_3 a0_4 a0_5 a0_6 a0_7 a1_0 a1_1 a1_2 a1_3 a1_4 a1_5 a1_6 a1_7 a1_8 a1_9 a1_10 a1_11 a1_12 a1_13 a2 v8 s3 = some r)
            · intro J3
              refine ⟨fun hc => ?_, fun hc => ?_⟩
              · replace hr := ifP hr hc
                obtain ⟨v12, hv12, hr⟩ := of_bind0 hr
                try simp only [hv12, Option.getD_some, Option.isSome_some, true_and, and_assoc]
                repeat refine gA ?_
                refine S.sees [2, 3, 4, 8, 9, 10] [(3, 3), (4, 4)] [(65, 65)] ?_ (J3 _ hr)
                exact lf
              · replace hr := ifN hr hc
                repeat refine gA ?_
                refine S.sees [2, 3, 4, 8, 9, 10] [(3, 3), (4, 4)] [(65, 65)] ?_ (J3 _ hr)
                exact lf
            · intro s3 hr
              unfold j4_3 at hr
              refine S.gx [9, 14, 16] ?_
              repeat refine gA ?_
              refine S.gx [9, 14] ?_
              repeat refine gA ?_
              repeat refine gA ?_
              refine ⟨fun hc => ?_, fun hc => ?_⟩
              · replace hr := ifP hr hc
                repeat (first | refine gA ?_ | refine gB ?_)
                obtain rfl := Option.some.inj hr
                exact lf
              · replace hr := ifN hr hc
                obtain ⟨hg10, hr⟩ := of_guard0 hr
                obtain ⟨hg11, hr⟩ := of_guard0 hr
                repeat (first | refine gG hg10 ?_ | refine gG hg11 ?_ | refine gA ?_ | refine gB ?_)
                obtain rfl := Option.some.inj hr
                exact lf
theorem f4 : FnFact Tryz.prog 4 T4.sp := ⟨⟨Tryz.f4, Tryz.func4, by decide, rfl⟩, v4⟩
end
end Go.Proofs.YtfkmbdfajpdjjaaGreatDoor

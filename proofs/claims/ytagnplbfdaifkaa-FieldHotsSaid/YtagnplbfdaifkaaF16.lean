/- Contracts of functions, written by wip/dec. -/
import Derived.Test.YtagnplbfdaifkaaF00
import Derived.Test.YtagnplbfdaifkaaF04
import Derived.Test.YtagnplbfdaifkaaF15
set_option linter.unusedVariables false
set_option linter.unusedSimpArgs false
set_option maxHeartbeats 4000000
set_option maxRecDepth 20000
namespace Go.Proofs.Ytagnplbfdaifkaa
open Go.Abs
/- martensite/martensitelaw02.FieldHots -/
def r8 (a0 : List (Int)) (a1 : Int) : Option (Bool) :=
  (r15).bind fun v1 =>
   if (!v1) = true then
    some false
    else if (decide ((a0.length : Int) > 6)) = true then
     some true
     else (r42 a0).bind fun v2 =>
      (r41 v2 a1).bind fun v3 =>
       (r43 a0 a1).bind fun v4 =>
        if (v4 != 0) = true then
         some ((v3.2 == v4) && ((v3.1.length : Int) == 0))
         else if (v3.2 == 0) = true → (r45 a0 a1).isSome = true then
          if (v3.2 == 0) = true → (r44 v3.1 ((r45 a0 a1).getD default)).isSome = true then
           some ((v3.2 == 0) && ((r44 v3.1 ((r45 a0 a1).getD default)).getD default))
           else none
          else none
def T8 : TSpec ((List (Int)) × Int) where
  enc x := [.c (encF 1 d_I x.1), .c (.int .i64 x.2)]
  dec a := (decF g_I (aCell a 0 0), dInt (aCell a 1 0))
  pre x := (r8 x.1 x.2).isSome = true
  res x := [.c (.d (.bool ((r8 x.1 x.2).getD default)))]
  al := false
def tb8 : Fns := lk [(15, T15.sp), (41, T41.sp), (42, T42.sp), (43, T43.sp), (44, T44.sp), (45, T45.sp)]
theorem tb8_ok : FnsOk Try.prog tb8 := .cons f15 (.cons f41 (.cons f42 (.cons f43 (.cons f44 (.cons f45 (FnsOk.nil))))))
theorem tb8_15 : tb8 15 = some T15.sp := rfl
theorem tb8_41 : tb8 41 = some T41.sp := rfl
theorem tb8_42 : tb8 42 = some T42.sp := rfl
theorem tb8_43 : tb8 43 = some T43.sp := rfl
theorem tb8_44 : tb8 44 = some T44.sp := rfl
theorem tb8_45 : tb8 45 = some T45.sp := rfl
theorem v8 : Valid Try.prog 8 T8.sp := by
  refine valid_t (fn := Try.f8) (n := 42) ty_ok tb8_ok Try.func8 rfl Try.ntmps8 ?_
  rintro ⟨a0, a1⟩ hx
  obtain ⟨r, hr⟩ := Option.isSome_iff_exists.1 (show (r8 a0 a1).isSome = true from hx)
  have hres : T8.res (a0, a1) = [.c (.d (.bool r))] := by simp only [T8, hr, Option.getD_some]
  refine ⟨Nat.le_of_ble_eq_true rfl, fun stop S => ?_⟩
  rw [hres] at S
  unfold r8 at hr
  refine S.goB [] 1000 ?_
  simp (maxSteps := 10000000) only [go_sem, tb8_15, T15, tb8_41, T41, tb8_42, T42, tb8_43, T43, tb8_44, T44, tb8_45, T45, T8, Bool.not_true, Bool.not_false, Option.map_some, Int.reduceToNat, Nat.reduceEqDiff, Nat.reduceLT, Nat.reduceAdd, Nat.reduceMul, Nat.reduceSub, Nat.reduceLeDiff, reduceIte, reduceCtorEq, Try.results8]
  obtain ⟨v1, hv1, hr⟩ := of_bind0 hr
  try simp only [hv1, Option.getD_some, Option.isSome_some, true_and, and_assoc]
  repeat refine gA ?_
  refine ⟨fun hc => ?_, fun hc => ?_⟩
  · replace hr := ifP hr hc
    repeat refine gA ?_
    obtain rfl := Option.some.inj hr
    (simp (maxDischargeDepth := 8) [go_sem, -List.drop_one])
  · replace hr := ifN hr hc
    repeat refine gA ?_
    refine ⟨fun hc => ?_, fun hc => ?_⟩
    · replace hr := ifP hr hc
      repeat refine gA ?_
      obtain rfl := Option.some.inj hr
      (simp (maxDischargeDepth := 8) [go_sem, -List.drop_one])
    · replace hr := ifN hr hc
      obtain ⟨v2, hv2, hr⟩ := of_bind0 hr
      obtain ⟨v3, hv3, hr⟩ := of_bind0 hr
      obtain ⟨v4, hv4, hr⟩ := of_bind0 hr
      try simp only [hv2, hv3, hv4, Option.getD_some, Option.isSome_some, true_and, and_assoc]
      repeat refine gA ?_
      refine ⟨fun hc => ?_, fun hc => ?_⟩
      · replace hr := ifP hr hc
        repeat (first | refine gA ?_ | refine gB ?_)
        obtain rfl := Option.some.inj hr
        (simp (maxDischargeDepth := 8) [go_sem, -List.drop_one])
      · replace hr := ifN hr hc
        obtain ⟨hg5, hr⟩ := of_guard0 hr
        obtain ⟨hg6, hr⟩ := of_guard0 hr
        repeat (first | refine gG hg5 ?_ | refine gG hg6 ?_ | refine gA ?_ | refine gB ?_)
        obtain rfl := Option.some.inj hr
        (simp (maxDischargeDepth := 8) [go_sem, -List.drop_one])
theorem f8 : FnFact Try.prog 8 T8.sp := ⟨⟨Try.f8, Try.func8, by decide, rfl⟩, v8⟩
end Go.Proofs.Ytagnplbfdaifkaa

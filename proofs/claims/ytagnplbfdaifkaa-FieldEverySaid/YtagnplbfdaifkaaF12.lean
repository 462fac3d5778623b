/- Contracts of functions, written by wip/dec. -/
import Derived.Test.YtagnplbfdaifkaaF00
import Derived.Test.YtagnplbfdaifkaaF01
import Derived.Test.YtagnplbfdaifkaaF02
import Derived.Test.YtagnplbfdaifkaaF05
set_option linter.unusedVariables false
set_option linter.unusedSimpArgs false
set_option maxHeartbeats 4000000
set_option maxRecDepth 20000
namespace Go.Proofs.Ytagnplbfdaifkaa
open Go.Abs
/- martensite/martensiteref02.TotalErr -/
def r37 (a0 : Int) : Option (Int) :=
  (r33 a0 0 100000).bind fun v1 =>
   if (!v1) = true then
    some 2
    else some 0
def T37 : TSpec (Int) where
  enc x := [.c (.int .i64 x)]
  dec a := dInt (aCell a 0 0)
  pre x := (r37 x).isSome = true
  res x := [.c (.d (.int .i64 ((r37 x).getD default)))]
  al := false
def tb37 : Fns := lk [(33, T33.sp)]
theorem tb37_ok : FnsOk Try.prog tb37 := .cons f33 (FnsOk.nil)
theorem tb37_33 : tb37 33 = some T33.sp := rfl
theorem v37 : Valid Try.prog 37 T37.sp := by
  refine valid_t (fn := Try.f37) (n := 6) ty_ok tb37_ok Try.func37 rfl Try.ntmps37 ?_
  rintro a0 hx
  obtain ⟨r, hr⟩ := Option.isSome_iff_exists.1 (show (r37 a0).isSome = true from hx)
  have hres : T37.res a0 = [.c (.d (.int .i64 r))] := by simp only [T37, hr, Option.getD_some]
  refine ⟨Nat.le_of_ble_eq_true rfl, fun stop S => ?_⟩
  rw [hres] at S
  unfold r37 at hr
  refine S.goB [] 1000 ?_
  simp (maxSteps := 10000000) only [go_sem, tb37_33, T33, T37, Bool.not_true, Bool.not_false, Option.map_some, Int.reduceToNat, Nat.reduceEqDiff, Nat.reduceLT, Nat.reduceAdd, Nat.reduceMul, Nat.reduceSub, Nat.reduceLeDiff, reduceIte, reduceCtorEq, Try.results37]
  obtain ⟨v1, hv1, hr⟩ := of_bind0 hr
  try simp only [hv1, Option.getD_some, Option.isSome_some, true_and, and_assoc]
  repeat refine gA ?_
  refine ⟨fun hc => ?_, fun hc => ?_⟩
  · replace hr := ifP hr hc
    repeat refine gA ?_
    obtain rfl := Option.some.inj hr
    (simp (maxDischargeDepth := 8) [go_sem, -List.drop_one])
  · replace hr := ifN hr hc
    repeat refine gA ?_
    obtain rfl := Option.some.inj hr
    (simp (maxDischargeDepth := 8) [go_sem, -List.drop_one])
theorem f37 : FnFact Try.prog 37 T37.sp := ⟨⟨Try.f37, Try.func37, by decide, rfl⟩, v37⟩

/- martensite/field.DepthFor -/
def r39 (a0_0 : Int) (a0_1 : List (Int × Int × Int)) (a1_0 : Int) (a1_1 : List (Bool)) (a2 : Int) : Option (Int × Int) :=
  (r83 a0_0 a0_1 a1_0 a1_1).bind fun v1 =>
   (r104 a2).bind fun v2 =>
    (r87 [v1.2.2, v2]).bind fun v3 =>
     if (v3 != 0) = true then
      some (0, v3)
      else (r105 v1.1 v1.2.1 a2).bind fun v4 =>
       some (v4, 0)
def T39 : TSpec (Int × (List (Int × Int × Int)) × Int × (List (Bool)) × Int) where
  enc x := [.agg [.int .i64 x.1, encF 3 d_III x.2.1], .agg [.int .i64 x.2.2.1, encF 1 d_B x.2.2.2.1], .c (.int .i64 x.2.2.2.2)]
  dec a := (dInt (aCell a 0 0), decF g_III (aCell a 0 1), dInt (aCell a 1 0), decF g_B (aCell a 1 1), dInt (aCell a 2 0))
  pre x := (r39 x.1 x.2.1 x.2.2.1 x.2.2.2.1 x.2.2.2.2).isSome = true
  res x := [.c (.d (.int .i64 (((r39 x.1 x.2.1 x.2.2.1 x.2.2.2.1 x.2.2.2.2).getD default).1))), .c (.d (.int .i64 (((r39 x.1 x.2.1 x.2.2.1 x.2.2.2.1 x.2.2.2.2).getD default).2)))]
  al := false
def tb39 : Fns := lk [(83, T83.sp), (87, T87.sp), (104, T104.sp), (105, T105.sp)]
theorem tb39_ok : FnsOk Try.prog tb39 := .cons f83 (.cons f87 (.cons f104 (.cons f105 (FnsOk.nil))))
theorem tb39_83 : tb39 83 = some T83.sp := rfl
theorem tb39_87 : tb39 87 = some T87.sp := rfl
theorem tb39_104 : tb39 104 = some T104.sp := rfl
theorem tb39_105 : tb39 105 = some T105.sp := rfl
theorem v39 : Valid Try.prog 39 T39.sp := by
  refine valid_t (fn := Try.f39) (n := 27) ty_ok tb39_ok Try.func39 rfl Try.ntmps39 ?_
  rintro ⟨a0_0, a0_1, a1_0, a1_1, a2⟩ hx
  obtain ⟨r, hr⟩ := Option.isSome_iff_exists.1 (show (r39 a0_0 a0_1 a1_0 a1_1 a2).isSome = true from hx)
  have hres : T39.res (a0_0, a0_1, a1_0, a1_1, a2) = [.c (.d (.int .i64 r.1)), .c (.d (.int .i64 r.2))] := by simp only [T39, hr, Option.getD_some]
  refine ⟨Nat.le_of_ble_eq_true rfl, fun stop S => ?_⟩
  rw [hres] at S
  unfold r39 at hr
  refine S.goB [] 1000 ?_
  simp (maxSteps := 10000000) only [go_sem, tb39_83, T83, tb39_87, T87, tb39_104, T104, tb39_105, T105, T39, Bool.not_true, Bool.not_false, Option.map_some, Int.reduceToNat, Nat.reduceEqDiff, Nat.reduceLT, Nat.reduceAdd, Nat.reduceMul, Nat.reduceSub, Nat.reduceLeDiff, reduceIte, reduceCtorEq, Try.results39]
  obtain ⟨v1, hv1, hr⟩ := of_bind0 hr
  obtain ⟨v2, hv2, hr⟩ := of_bind0 hr
  obtain ⟨v3, hv3, hr⟩ := of_bind0 hr
  try simp only [hv1, hv2, hv3, Option.getD_some, Option.isSome_some, true_and, and_assoc]
  repeat refine gA ?_
  refine ⟨fun hc => ?_, fun hc => ?_⟩
  · replace hr := ifP hr hc
    repeat refine gA ?_
    obtain rfl := Option.some.inj hr
    (simp (maxDischargeDepth := 8) [go_sem, -List.drop_one])
  · replace hr := ifN hr hc
    obtain ⟨v4, hv4, hr⟩ := of_bind0 hr
    try simp only [hv4, Option.getD_some, Option.isSome_some, true_and, and_assoc]
    repeat refine gA ?_
    obtain rfl := Option.some.inj hr
    (simp (maxDischargeDepth := 8) [go_sem, -List.drop_one])
theorem f39 : FnFact Try.prog 39 T39.sp := ⟨⟨Try.f39, Try.func39, by decide, rfl⟩, v39⟩

/- martensite/martensitebase.Floor -/
def r106 (a0 : Int) (a1 : Int) : Option (Int) :=
  if a1 ≠ 0 then
   if a1 ≠ 0 then
    if (decide ((a0.tmod a1) < 0)) = true then
     some (IntKind.i64.wrap ((IntKind.i64.wrap (a0.tdiv a1)) - 1))
     else some (IntKind.i64.wrap (a0.tdiv a1))
    else none
   else none
def T106 : TSpec (Int × Int) where
  enc x := [.c (.int .i64 x.1), .c (.int .i64 x.2)]
  dec a := (dInt (aCell a 0 0), dInt (aCell a 1 0))
  pre x := (r106 x.1 x.2).isSome = true
  res x := [.c (.d (.int .i64 ((r106 x.1 x.2).getD default)))]
  al := false
def tb106 : Fns := lk []
theorem tb106_ok : FnsOk Try.prog tb106 := FnsOk.nil
theorem v106 : Valid Try.prog 106 T106.sp := by
  refine valid_t (fn := Try.f106) (n := 16) ty_ok tb106_ok Try.func106 rfl Try.ntmps106 ?_
  rintro ⟨a0, a1⟩ hx
  obtain ⟨r, hr⟩ := Option.isSome_iff_exists.1 (show (r106 a0 a1).isSome = true from hx)
  have hres : T106.res (a0, a1) = [.c (.d (.int .i64 r))] := by simp only [T106, hr, Option.getD_some]
  refine ⟨Nat.le_of_ble_eq_true rfl, fun stop S => ?_⟩
  rw [hres] at S
  unfold r106 at hr
  refine S.goB [] 1000 ?_
  simp (maxSteps := 10000000) only [go_sem, T106, Bool.not_true, Bool.not_false, Option.map_some, Int.reduceToNat, Nat.reduceEqDiff, Nat.reduceLT, Nat.reduceAdd, Nat.reduceMul, Nat.reduceSub, Nat.reduceLeDiff, reduceIte, reduceCtorEq, Try.results106]
  obtain ⟨hg1, hr⟩ := of_guard0 hr
  obtain ⟨hg2, hr⟩ := of_guard0 hr
  repeat refine gA ?_
  refine ⟨fun hc => ?_, fun hc => ?_⟩
  · replace hr := ifP hr hc
    repeat refine gA ?_
    obtain rfl := Option.some.inj hr
    (simp (maxDischargeDepth := 8) [go_sem, -List.drop_one])
  · replace hr := ifN hr hc
    repeat refine gA ?_
    obtain rfl := Option.some.inj hr
    (simp (maxDischargeDepth := 8) [go_sem, -List.drop_one])
theorem f106 : FnFact Try.prog 106 T106.sp := ⟨⟨Try.f106, Try.func106, by decide, rfl⟩, v106⟩

/- martensite/martensitebase.Compare -/
def b40_1 : (Int × Int × Int × Int) → Ctl (Int × Int × Int × Int) (Int) := fun s1 =>
  bindC (r106 s1.1 s1.2.1) fun v1 =>
   bindC (r106 s1.2.2.1 s1.2.2.2) fun v2 =>
    if (decide (v1 < v2)) = true then
     .out (some (-1))
     else if (decide (v1 > v2)) = true then
      .out (some 1)
      else if (((IntKind.i64.wrap (s1.1 - (IntKind.i64.wrap (v1 * s1.2.1)))) == 0) && ((IntKind.i64.wrap (s1.2.2.1 - (IntKind.i64.wrap (v2 * s1.2.2.2)))) == 0)) = true then
       .out (some 0)
       else if ((IntKind.i64.wrap (s1.1 - (IntKind.i64.wrap (v1 * s1.2.1)))) == 0) = true then
        .out (some (-1))
        else if ((IntKind.i64.wrap (s1.2.2.1 - (IntKind.i64.wrap (v2 * s1.2.2.2)))) == 0) = true then
         .out (some 1)
         else .next (s1.2.2.2, IntKind.i64.wrap (s1.2.2.1 - (IntKind.i64.wrap (v2 * s1.2.2.2))), s1.2.1, IntKind.i64.wrap (s1.1 - (IntKind.i64.wrap (v1 * s1.2.1))))
def r40 (a0 : Int) (a1 : Int) (a2 : Int) (a3 : Int) : Option (Int) :=
  iterC (b40_1) 1000000000 (a0, a1, a2, a3)
def T40 : TSpec (Int × Int × Int × Int) where
  enc x := [.c (.int .i64 x.1), .c (.int .i64 x.2.1), .c (.int .i64 x.2.2.1), .c (.int .i64 x.2.2.2)]
  dec a := (dInt (aCell a 0 0), dInt (aCell a 1 0), dInt (aCell a 2 0), dInt (aCell a 3 0))
  pre x := (r40 x.1 x.2.1 x.2.2.1 x.2.2.2).isSome = true
  res x := [.c (.d (.int .i64 ((r40 x.1 x.2.1 x.2.2.1 x.2.2.2).getD default)))]
  al := false
def tb40 : Fns := lk [(106, T106.sp)]
theorem tb40_ok : FnsOk Try.prog tb40 := .cons f106 (FnsOk.nil)
theorem tb40_106 : tb40 106 = some T106.sp := rfl
theorem v40 : Valid Try.prog 40 T40.sp := by
  refine valid_t (fn := Try.f40) (n := 47) ty_ok tb40_ok Try.func40 rfl Try.ntmps40 ?_
  rintro ⟨a0, a1, a2, a3⟩ hx
  obtain ⟨r, hr⟩ := Option.isSome_iff_exists.1 (show (r40 a0 a1 a2 a3).isSome = true from hx)
  have hres : T40.res (a0, a1, a2, a3) = [.c (.d (.int .i64 r))] := by simp only [T40, hr, Option.getD_some]
  refine ⟨Nat.le_of_ble_eq_true rfl, fun stop S => ?_⟩
  rw [hres] at S
  unfold r40 at hr
  refine S.goB [] 1000 ?_
  simp (maxSteps := 10000000) only [go_sem, tb40_106, T106, T40, Bool.not_true, Bool.not_false, Option.map_some, Int.reduceToNat, Nat.reduceEqDiff, Nat.reduceLT, Nat.reduceAdd, Nat.reduceMul, Nat.reduceSub, Nat.reduceLeDiff, reduceIte, reduceCtorEq, Try.results40]
  repeat refine gA ?_
  refine S.sees [0, 1, 2, 3] [] [] ?_ (Stop.iter S (fun s1 => ⟨[(0, .c (.d (.int .i64 s1.1))), (1, .c (.d (.int .i64 s1.2.1))), (2, .c (.d (.int .i64 s1.2.2.1))), (3, .c (.d (.int .i64 s1.2.2.2)))], [], []⟩) (b40_1) (fun q => q = r) hr rfl ?_)
  · (simp (maxDischargeDepth := 8) [go_sem, -List.drop_one])
  · intro s1 hr
    unfold b40_1 at hr
    refine S.goB [] 1000 ?_
    simp (maxSteps := 10000000) only [go_sem, tb40_106, T106, T40, Bool.not_true, Bool.not_false, Option.map_some, Int.reduceToNat, Nat.reduceEqDiff, Nat.reduceLT, Nat.reduceAdd, Nat.reduceMul, Nat.reduceSub, Nat.reduceLeDiff, reduceIte, reduceCtorEq, Try.results40]
    obtain ⟨v1, hv1, hr⟩ := of_bind1 hr
    obtain ⟨v2, hv2, hr⟩ := of_bind1 hr
    try simp only [hv1, hv2, Option.getD_some, Option.isSome_some, true_and, and_assoc]
    repeat refine gA ?_
    refine ⟨fun hc => ?_, fun hc => ?_⟩
    · replace hr := ifP1 hr hc
      repeat refine gA ?_
      have hr := of_out0 hr
      obtain rfl := Option.some.inj hr
      (simp (maxDischargeDepth := 8) [go_sem, -List.drop_one])
    · replace hr := ifN1 hr hc
      repeat refine gA ?_
      refine ⟨fun hc => ?_, fun hc => ?_⟩
      · replace hr := ifP1 hr hc
        repeat refine gA ?_
        have hr := of_out0 hr
        obtain rfl := Option.some.inj hr
        (simp (maxDischargeDepth := 8) [go_sem, -List.drop_one])
      · replace hr := ifN1 hr hc
        repeat (first | refine gA ?_ | refine gB ?_)
        refine ⟨fun hc => ?_, fun hc => ?_⟩
        · replace hr := ifP1 hr hc
          repeat refine gA ?_
          have hr := of_out0 hr
          obtain rfl := Option.some.inj hr
          (simp (maxDischargeDepth := 8) [go_sem, -List.drop_one])
        · replace hr := ifN1 hr hc
          repeat refine gA ?_
          refine ⟨fun hc => ?_, fun hc => ?_⟩
          · replace hr := ifP1 hr hc
            repeat refine gA ?_
            have hr := of_out0 hr
            obtain rfl := Option.some.inj hr
            (simp (maxDischargeDepth := 8) [go_sem, -List.drop_one])
          · replace hr := ifN1 hr hc
            repeat refine gA ?_
            refine ⟨fun hc => ?_, fun hc => ?_⟩
            · replace hr := ifP1 hr hc
              repeat refine gA ?_
              have hr := of_out0 hr
              obtain rfl := Option.some.inj hr
              (simp (maxDischargeDepth := 8) [go_sem, -List.drop_one])
            · replace hr := ifN1 hr hc
              repeat refine gA ?_
              refine S.sees [0, 1, 2, 3] [] [] ?_ hr
              (simp (maxDischargeDepth := 8) [go_sem, -List.drop_one])
theorem f40 : FnFact Try.prog 40 T40.sp := ⟨⟨Try.f40, Try.func40, by decide, rfl⟩, v40⟩
end Go.Proofs.Ytagnplbfdaifkaa

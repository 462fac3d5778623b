/- Contracts of functions, written by wip/dec. -/
import Derived.Test.YtagnplbfdaifkaaF00
set_option linter.unusedVariables false
set_option linter.unusedSimpArgs false
set_option maxHeartbeats 4000000
set_option maxRecDepth 20000
namespace Go.Proofs.Ytagnplbfdaifkaa
open Go.Abs
/- martensite/martensitelaw02.Ladder -/
def r81 : Option (Int × (List (Int × Int × Int))) :=
  some (2, [(1, 2, 1), (1, 1, 1)])
def T81 : TSpec (Unit) where
  enc x := []
  dec a := ()
  pre x := (r81).isSome = true
  res x := [.agg [.d (.int .i64 (((r81).getD default).1)), .own (encF 3 d_III (((r81).getD default).2))]]
  al := false
def tb81 : Fns := lk []
theorem tb81_ok : FnsOk Try.prog tb81 := FnsOk.nil
theorem v81 : Valid Try.prog 81 T81.sp := by
  refine valid_t (fn := Try.f81) (n := 5) ty_ok tb81_ok Try.func81 rfl Try.ntmps81 ?_
  intro _ hx
  obtain ⟨r, hr⟩ := Option.isSome_iff_exists.1 (show (r81).isSome = true from hx)
  have hres : T81.res () = [.agg [.d (.int .i64 r.1), .own (encF 3 d_III r.2)]] := by simp only [T81, hr, Option.getD_some]
  refine ⟨Nat.le_of_ble_eq_true rfl, fun stop S => ?_⟩
  rw [hres] at S
  unfold r81 at hr
  refine S.goB [] 1000 ?_
  simp (maxSteps := 10000000) only [go_sem, T81, Bool.not_true, Bool.not_false, Option.map_some, Int.reduceToNat, Nat.reduceEqDiff, Nat.reduceLT, Nat.reduceAdd, Nat.reduceMul, Nat.reduceSub, Nat.reduceLeDiff, reduceIte, reduceCtorEq, Try.results81]
  repeat refine gA ?_
  obtain rfl := Option.some.inj hr
  (simp (maxDischargeDepth := 8) [go_sem, -List.drop_one])
theorem f81 : FnFact Try.prog 81 T81.sp := ⟨⟨Try.f81, Try.func81, by decide, rfl⟩, v81⟩

/- martensite/martensitelaw02.Drive -/
def r82 : Option (Int × (List (Bool))) :=
  some (1, [false, false])
def T82 : TSpec (Unit) where
  enc x := []
  dec a := ()
  pre x := (r82).isSome = true
  res x := [.agg [.d (.int .i64 (((r82).getD default).1)), .own (encF 1 d_B (((r82).getD default).2))]]
  al := false
def tb82 : Fns := lk []
theorem tb82_ok : FnsOk Try.prog tb82 := FnsOk.nil
theorem v82 : Valid Try.prog 82 T82.sp := by
  refine valid_t (fn := Try.f82) (n := 3) ty_ok tb82_ok Try.func82 rfl Try.ntmps82 ?_
  intro _ hx
  obtain ⟨r, hr⟩ := Option.isSome_iff_exists.1 (show (r82).isSome = true from hx)
  have hres : T82.res () = [.agg [.d (.int .i64 r.1), .own (encF 1 d_B r.2)]] := by simp only [T82, hr, Option.getD_some]
  refine ⟨Nat.le_of_ble_eq_true rfl, fun stop S => ?_⟩
  rw [hres] at S
  unfold r82 at hr
  refine S.goB [] 1000 ?_
  simp (maxSteps := 10000000) only [go_sem, T82, Bool.not_true, Bool.not_false, Option.map_some, Int.reduceToNat, Nat.reduceEqDiff, Nat.reduceLT, Nat.reduceAdd, Nat.reduceMul, Nat.reduceSub, Nat.reduceLeDiff, reduceIte, reduceCtorEq, Try.results82]
  repeat refine gA ?_
  obtain rfl := Option.some.inj hr
  (simp (maxDischargeDepth := 8) [go_sem, -List.drop_one])
theorem f82 : FnFact Try.prog 82 T82.sp := ⟨⟨Try.f82, Try.func82, by decide, rfl⟩, v82⟩

/- martensite/field.within -/
def r97 (a0 : Int) (a1 : Int) (a2 : Int) : Option (Bool) :=
  some ((decide (a1 ≤ a0)) && (decide (a0 ≤ a2)))
def T97 : TSpec (Int × Int × Int) where
  enc x := [.c (.int .i64 x.1), .c (.int .i64 x.2.1), .c (.int .i64 x.2.2)]
  dec a := (dInt (aCell a 0 0), dInt (aCell a 1 0), dInt (aCell a 2 0))
  pre x := (r97 x.1 x.2.1 x.2.2).isSome = true
  res x := [.c (.d (.bool ((r97 x.1 x.2.1 x.2.2).getD default)))]
  al := false
def tb97 : Fns := lk []
theorem tb97_ok : FnsOk Try.prog tb97 := FnsOk.nil
theorem v97 : Valid Try.prog 97 T97.sp := by
  refine valid_t (fn := Try.f97) (n := 15) ty_ok tb97_ok Try.func97 rfl Try.ntmps97 ?_
  rintro ⟨a0, a1, a2⟩ hx
  obtain ⟨r, hr⟩ := Option.isSome_iff_exists.1 (show (r97 a0 a1 a2).isSome = true from hx)
  have hres : T97.res (a0, a1, a2) = [.c (.d (.bool r))] := by simp only [T97, hr, Option.getD_some]
  refine ⟨Nat.le_of_ble_eq_true rfl, fun stop S => ?_⟩
  rw [hres] at S
  unfold r97 at hr
  refine S.goB [] 1000 ?_
  simp (maxSteps := 10000000) only [go_sem, T97, Bool.not_true, Bool.not_false, Option.map_some, Int.reduceToNat, Nat.reduceEqDiff, Nat.reduceLT, Nat.reduceAdd, Nat.reduceMul, Nat.reduceSub, Nat.reduceLeDiff, reduceIte, reduceCtorEq, Try.results97]
  repeat (first | refine gA ?_ | refine gB ?_)
  obtain rfl := Option.some.inj hr
  (simp (maxDischargeDepth := 8) [go_sem, -List.drop_one])
theorem f97 : FnFact Try.prog 97 T97.sp := ⟨⟨Try.f97, Try.func97, by decide, rfl⟩, v97⟩

/- martensite/field.unless -/
def r96 (a0 : Bool) (a1 : Int) : Option (Int) :=
  if a0 = true then
   some 0
   else some a1
def T96 : TSpec (Bool × Int) where
  enc x := [.c (.bool x.1), .c (.int .i64 x.2)]
  dec a := (dBool (aCell a 0 0), dInt (aCell a 1 0))
  pre x := (r96 x.1 x.2).isSome = true
  res x := [.c (.d (.int .i64 ((r96 x.1 x.2).getD default)))]
  al := false
def tb96 : Fns := lk []
theorem tb96_ok : FnsOk Try.prog tb96 := FnsOk.nil
theorem v96 : Valid Try.prog 96 T96.sp := by
  refine valid_t (fn := Try.f96) (n := 7) ty_ok tb96_ok Try.func96 rfl Try.ntmps96 ?_
  rintro ⟨a0, a1⟩ hx
  obtain ⟨r, hr⟩ := Option.isSome_iff_exists.1 (show (r96 a0 a1).isSome = true from hx)
  have hres : T96.res (a0, a1) = [.c (.d (.int .i64 r))] := by simp only [T96, hr, Option.getD_some]
  refine ⟨Nat.le_of_ble_eq_true rfl, fun stop S => ?_⟩
  rw [hres] at S
  unfold r96 at hr
  refine S.goB [] 1000 ?_
  simp (maxSteps := 10000000) only [go_sem, T96, Bool.not_true, Bool.not_false, Option.map_some, Int.reduceToNat, Nat.reduceEqDiff, Nat.reduceLT, Nat.reduceAdd, Nat.reduceMul, Nat.reduceSub, Nat.reduceLeDiff, reduceIte, reduceCtorEq, Try.results96]
  repeat refine gA ?_
  refine ⟨fun hc => ?_, fun hc => ?_⟩
  · replace hr := ifP hr hc
    repeat refine gA ?_
    obtain rfl := Option.some.inj hr
    (simp (maxDischargeDepth := 8) [go_sem, -List.drop_one])
  · replace hr := ifN hr hc
    repeat refine gA ?_
    obtain rfl := Option.some.inj hr
    (simp (maxDischargeDepth := 8) [go_sem, -List.drop_one])
theorem f96 : FnFact Try.prog 96 T96.sp := ⟨⟨Try.f96, Try.func96, by decide, rfl⟩, v96⟩

/- martensite/field.first -/
def b87_1 (a0 : List (Int)) : (Int) → Ctl (Int) (Int) := fun s1 =>
  if (decide (s1 < (a0.length : Int))) = true then
   if 0 ≤ s1 ∧ s1 < (a0.length : Int) then
    if ((a0.getD s1.toNat default) != 0) = true then
     .out (some (a0.getD s1.toNat default))
     else .next (IntKind.i64.wrap (s1 + 1))
    else .out none
   else .out (some 0)
def r87 (a0 : List (Int)) : Option (Int) :=
  iterC (b87_1 a0) 1000000000 0
def T87 : TSpec ((List (Int))) where
  enc x := [.c (encF 1 d_I x)]
  dec a := decF g_I (aCell a 0 0)
  pre x := (r87 x).isSome = true
  res x := [.c (.d (.int .i64 ((r87 x).getD default)))]
  al := false
def tb87 : Fns := lk []
theorem tb87_ok : FnsOk Try.prog tb87 := FnsOk.nil
theorem v87 : Valid Try.prog 87 T87.sp := by
  refine valid_t (fn := Try.f87) (n := 15) ty_ok tb87_ok Try.func87 rfl Try.ntmps87 ?_
  rintro a0 hx
  obtain ⟨r, hr⟩ := Option.isSome_iff_exists.1 (show (r87 a0).isSome = true from hx)
  have hres : T87.res a0 = [.c (.d (.int .i64 r))] := by simp only [T87, hr, Option.getD_some]
  refine ⟨Nat.le_of_ble_eq_true rfl, fun stop S => ?_⟩
  rw [hres] at S
  unfold r87 at hr
  refine S.goB [] 1000 ?_
  simp (maxSteps := 10000000) only [go_sem, T87, Bool.not_true, Bool.not_false, Option.map_some, Int.reduceToNat, Nat.reduceEqDiff, Nat.reduceLT, Nat.reduceAdd, Nat.reduceMul, Nat.reduceSub, Nat.reduceLeDiff, reduceIte, reduceCtorEq, Try.results87]
  repeat refine gA ?_
  refine S.sees [5, 6, 7] [] [] ?_ (Stop.iter S (fun s1 => ⟨[(5, .c (.d (encF 1 d_I a0))), (6, .c (.d (.int .i64 (a0.length : Int)))), (7, .c (.d (.int .i64 s1)))], [], []⟩) (b87_1 a0) (fun q => q = r) hr rfl ?_)
  · (simp (maxDischargeDepth := 8) [go_sem, -List.drop_one])
  · intro s1 hr
    unfold b87_1 at hr
    refine S.goB [] 1000 ?_
    simp (maxSteps := 10000000) only [go_sem, T87, Bool.not_true, Bool.not_false, Option.map_some, Int.reduceToNat, Nat.reduceEqDiff, Nat.reduceLT, Nat.reduceAdd, Nat.reduceMul, Nat.reduceSub, Nat.reduceLeDiff, reduceIte, reduceCtorEq, Try.results87]
    repeat refine gA ?_
    refine ⟨fun hc => ?_, fun hc => ?_⟩
    · replace hr := ifP1 hr hc
      obtain ⟨hg1, hr⟩ := of_guard1 hr
      repeat refine gA ?_
      refine ⟨fun hc => ?_, fun hc => ?_⟩
      · replace hr := ifP1 hr hc
        repeat refine gA ?_
        have hr := of_out0 hr
        obtain rfl := Option.some.inj hr
        (simp (maxDischargeDepth := 8) [go_sem, -List.drop_one])
      · replace hr := ifN1 hr hc
        repeat refine gA ?_
        refine S.sees [5, 6, 7] [] [] ?_ hr
        (simp (maxDischargeDepth := 8) [go_sem, -List.drop_one])
    · replace hr := ifN1 hr hc
      repeat refine gA ?_
      have hr := of_out0 hr
      repeat refine gA ?_
      obtain rfl := Option.some.inj hr
      (simp (maxDischargeDepth := 8) [go_sem, -List.drop_one])
theorem f87 : FnFact Try.prog 87 T87.sp := ⟨⟨Try.f87, Try.func87, by decide, rfl⟩, v87⟩

/- martensite/field.CheckLadder$1 -/
def r98 (a0 : Int) : Option (Bool) :=
  (r97 a0 1 4).bind fun v1 =>
   some v1
def T98 : TSpec (Int) where
  enc x := [.c (.int .i64 x)]
  dec a := dInt (aCell a 0 0)
  pre x := (r98 x).isSome = true
  res x := [.c (.d (.bool ((r98 x).getD default)))]
  al := false
def tb98 : Fns := lk [(97, T97.sp)]
theorem tb98_ok : FnsOk Try.prog tb98 := .cons f97 (FnsOk.nil)
theorem tb98_97 : tb98 97 = some T97.sp := rfl
theorem v98 : Valid Try.prog 98 T98.sp := by
  refine valid_t (fn := Try.f98) (n := 5) ty_ok tb98_ok Try.func98 rfl Try.ntmps98 ?_
  rintro a0 hx
  obtain ⟨r, hr⟩ := Option.isSome_iff_exists.1 (show (r98 a0).isSome = true from hx)
  have hres : T98.res a0 = [.c (.d (.bool r))] := by simp only [T98, hr, Option.getD_some]
  refine ⟨Nat.le_of_ble_eq_true rfl, fun stop S => ?_⟩
  rw [hres] at S
  unfold r98 at hr
  refine S.goB [] 1000 ?_
  simp (maxSteps := 10000000) only [go_sem, tb98_97, T97, T98, Bool.not_true, Bool.not_false, Option.map_some, Int.reduceToNat, Nat.reduceEqDiff, Nat.reduceLT, Nat.reduceAdd, Nat.reduceMul, Nat.reduceSub, Nat.reduceLeDiff, reduceIte, reduceCtorEq, Try.results98]
  obtain ⟨v1, hv1, hr⟩ := of_bind0 hr
  try simp only [hv1, Option.getD_some, Option.isSome_some, true_and, and_assoc]
  repeat refine gA ?_
  obtain rfl := Option.some.inj hr
  (simp (maxDischargeDepth := 8) [go_sem, -List.drop_one])
theorem f98 : FnFact Try.prog 98 T98.sp := ⟨⟨Try.f98, Try.func98, by decide, rfl⟩, v98⟩

/- martensite/field.CheckLadder -/
def b26_1 (a0_1 : List (Int × Int × Int)) : (Int) → Ctl (Int) (Int × Int) := fun s1 =>
  if (decide (s1 < (a0_1.length : Int))) = true then
   if 0 ≤ s1 ∧ s1 < (a0_1.length : Int) then
    bindC (r97 ((a0_1.getD s1.toNat default).1) 1 4) fun v6 =>
     if v6 = true → (r98 ((a0_1.getD s1.toNat default).2.1)).isSome = true then
      if (v6 && ((r98 ((a0_1.getD s1.toNat default).2.1)).getD default)) = true → (r98 ((a0_1.getD s1.toNat default).2.2)).isSome = true then
       bindC (r96 ((v6 && ((r98 ((a0_1.getD s1.toNat default).2.1)).getD default)) && ((r98 ((a0_1.getD s1.toNat default).2.2)).getD default)) 2) fun v7 =>
        bindC (r96 (decide (((a0_1.getD s1.toNat default).2.2) ≤ ((a0_1.getD s1.toNat default).2.1))) 9) fun v8 =>
         bindC (r87 [v7, v8]) fun v9 =>
          if (v9 != 0) = true then
           .out (some (s1, v9))
           else .next (IntKind.i64.wrap (s1 + 1))
       else .out none
      else .out none
    else .out none
   else .out (some (0, 0))
def r26 (a0_0 : Int) (a0_1 : List (Int × Int × Int)) : Option (Int × Int) :=
  (r97 a0_0 1 20).bind fun v1 =>
   (r96 v1 2).bind fun v2 =>
    (r96 (decide ((a0_1.length : Int) > 0)) 10).bind fun v3 =>
     (r96 (decide ((a0_1.length : Int) ≤ 4)) 8).bind fun v4 =>
      (r87 [v2, v3, v4]).bind fun v5 =>
       if (v5 != 0) = true then
        some (0, v5)
        else iterC (b26_1 a0_1) 1000000000 0
def T26 : TSpec (Int × (List (Int × Int × Int))) where
  enc x := [.agg [.int .i64 x.1, encF 3 d_III x.2]]
  dec a := (dInt (aCell a 0 0), decF g_III (aCell a 0 1))
  pre x := (r26 x.1 x.2).isSome = true
  res x := [.c (.d (.int .i64 (((r26 x.1 x.2).getD default).1))), .c (.d (.int .i64 (((r26 x.1 x.2).getD default).2)))]
  al := false
def tb26 : Fns := lk [(87, T87.sp), (96, T96.sp), (97, T97.sp), (98, T98.sp)]
theorem tb26_ok : FnsOk Try.prog tb26 := .cons f87 (.cons f96 (.cons f97 (.cons f98 (FnsOk.nil))))
theorem tb26_87 : tb26 87 = some T87.sp := rfl
theorem tb26_96 : tb26 96 = some T96.sp := rfl
theorem tb26_97 : tb26 97 = some T97.sp := rfl
theorem tb26_98 : tb26 98 = some T98.sp := rfl
theorem v26 : Valid Try.prog 26 T26.sp := by
  refine valid_t (fn := Try.f26) (n := 67) ty_ok tb26_ok Try.func26 rfl Try.ntmps26 ?_
  rintro ⟨a0_0, a0_1⟩ hx
  obtain ⟨r, hr⟩ := Option.isSome_iff_exists.1 (show (r26 a0_0 a0_1).isSome = true from hx)
  have hres : T26.res (a0_0, a0_1) = [.c (.d (.int .i64 r.1)), .c (.d (.int .i64 r.2))] := by simp only [T26, hr, Option.getD_some]
  refine ⟨Nat.le_of_ble_eq_true rfl, fun stop S => ?_⟩
  rw [hres] at S
  unfold r26 at hr
  refine S.goB [] 1000 ?_
  simp (maxSteps := 10000000) only [go_sem, tb26_87, T87, tb26_96, T96, tb26_97, T97, tb26_98, T98, T26, Bool.not_true, Bool.not_false, Option.map_some, Int.reduceToNat, Nat.reduceEqDiff, Nat.reduceLT, Nat.reduceAdd, Nat.reduceMul, Nat.reduceSub, Nat.reduceLeDiff, reduceIte, reduceCtorEq, Try.results26]
  obtain ⟨v1, hv1, hr⟩ := of_bind0 hr
  obtain ⟨v2, hv2, hr⟩ := of_bind0 hr
  obtain ⟨v3, hv3, hr⟩ := of_bind0 hr
  obtain ⟨v4, hv4, hr⟩ := of_bind0 hr
  obtain ⟨v5, hv5, hr⟩ := of_bind0 hr
  try simp only [hv1, hv2, hv3, hv4, hv5, Option.getD_some, Option.isSome_some, true_and, and_assoc]
  repeat refine gA ?_
  refine ⟨fun hc => ?_, fun hc => ?_⟩
  · replace hr := ifP hr hc
    repeat refine gA ?_
    obtain rfl := Option.some.inj hr
    (simp (maxDischargeDepth := 8) [go_sem, -List.drop_one])
  · replace hr := ifN hr hc
    repeat refine gA ?_
    refine S.sees [5, 30, 31, 32] [] [] ?_ (Stop.iter S (fun s1 => ⟨[(5, .c (.clo 98 [])), (30, .c (.d (encF 3 d_III a0_1))), (31, .c (.d (.int .i64 (a0_1.length : Int)))), (32, .c (.d (.int .i64 s1)))], [], []⟩) (b26_1 a0_1) (fun q => q = r) hr rfl ?_)
    · (simp (maxDischargeDepth := 8) [go_sem, -List.drop_one])
    · intro s1 hr
      unfold b26_1 at hr
      refine S.goB [] 1000 ?_
      simp (maxSteps := 10000000) only [go_sem, tb26_87, T87, tb26_96, T96, tb26_97, T97, tb26_98, T98, T26, Bool.not_true, Bool.not_false, Option.map_some, Int.reduceToNat, Nat.reduceEqDiff, Nat.reduceLT, Nat.reduceAdd, Nat.reduceMul, Nat.reduceSub, Nat.reduceLeDiff, reduceIte, reduceCtorEq, Try.results26]
      repeat refine gA ?_
      refine ⟨fun hc => ?_, fun hc => ?_⟩
      · replace hr := ifP1 hr hc
        obtain ⟨hg10, hr⟩ := of_guard1 hr
        obtain ⟨v6, hv6, hr⟩ := of_bind1 hr
        obtain ⟨hg11, hr⟩ := of_guard1 hr
        obtain ⟨hg12, hr⟩ := of_guard1 hr
        obtain ⟨v7, hv7, hr⟩ := of_bind1 hr
        obtain ⟨v8, hv8, hr⟩ := of_bind1 hr
        obtain ⟨v9, hv9, hr⟩ := of_bind1 hr
        try simp only [hv6, hv7, hv8, hv9, Option.getD_some, Option.isSome_some, true_and, and_assoc]
        repeat (first | refine gG hg11 ?_ | refine gG hg12 ?_ | refine gA ?_ | refine gB ?_)
        refine ⟨fun hc => ?_, fun hc => ?_⟩
        · replace hr := ifP1 hr hc
          repeat refine gA ?_
          have hr := of_out0 hr
          obtain rfl := Option.some.inj hr
          (simp (maxDischargeDepth := 8) [go_sem, -List.drop_one])
        · replace hr := ifN1 hr hc
          repeat refine gA ?_
          refine S.sees [5, 30, 31, 32] [] [] ?_ hr
          (simp (maxDischargeDepth := 8) [go_sem, -List.drop_one])
      · replace hr := ifN1 hr hc
        repeat refine gA ?_
        have hr := of_out0 hr
        repeat refine gA ?_
        obtain rfl := Option.some.inj hr
        (simp (maxDischargeDepth := 8) [go_sem, -List.drop_one])
theorem f26 : FnFact Try.prog 26 T26.sp := ⟨⟨Try.f26, Try.func26, by decide, rfl⟩, v26⟩

/- martensite/field.ladderErr -/
def r99 (a0_0 : Int) (a0_1 : List (Int × Int × Int)) : Option (Int) :=
  (r26 a0_0 a0_1).bind fun v1 =>
   some v1.2
def T99 : TSpec (Int × (List (Int × Int × Int))) where
  enc x := [.agg [.int .i64 x.1, encF 3 d_III x.2]]
  dec a := (dInt (aCell a 0 0), decF g_III (aCell a 0 1))
  pre x := (r99 x.1 x.2).isSome = true
  res x := [.c (.d (.int .i64 ((r99 x.1 x.2).getD default)))]
  al := false
def tb99 : Fns := lk [(26, T26.sp)]
theorem tb99_ok : FnsOk Try.prog tb99 := .cons f26 (FnsOk.nil)
theorem tb99_26 : tb99 26 = some T26.sp := rfl
theorem v99 : Valid Try.prog 99 T99.sp := by
  refine valid_t (fn := Try.f99) (n := 11) ty_ok tb99_ok Try.func99 rfl Try.ntmps99 ?_
  rintro ⟨a0_0, a0_1⟩ hx
  obtain ⟨r, hr⟩ := Option.isSome_iff_exists.1 (show (r99 a0_0 a0_1).isSome = true from hx)
  have hres : T99.res (a0_0, a0_1) = [.c (.d (.int .i64 r))] := by simp only [T99, hr, Option.getD_some]
  refine ⟨Nat.le_of_ble_eq_true rfl, fun stop S => ?_⟩
  rw [hres] at S
  unfold r99 at hr
  refine S.goB [] 1000 ?_
  simp (maxSteps := 10000000) only [go_sem, tb99_26, T26, T99, Bool.not_true, Bool.not_false, Option.map_some, Int.reduceToNat, Nat.reduceEqDiff, Nat.reduceLT, Nat.reduceAdd, Nat.reduceMul, Nat.reduceSub, Nat.reduceLeDiff, reduceIte, reduceCtorEq, Try.results99]
  obtain ⟨v1, hv1, hr⟩ := of_bind0 hr
  try simp only [hv1, Option.getD_some, Option.isSome_some, true_and, and_assoc]
  repeat refine gA ?_
  obtain rfl := Option.some.inj hr
  (simp (maxDischargeDepth := 8) [go_sem, -List.drop_one])
theorem f99 : FnFact Try.prog 99 T99.sp := ⟨⟨Try.f99, Try.func99, by decide, rfl⟩, v99⟩

/- martensite/field.driveErr -/
def r100 (a0_0 : Int) (a0_1 : List (Int × Int × Int)) (a1_0 : Int) (a1_1 : List (Bool)) : Option (Int) :=
  (r97 a1_0 1 8).bind fun v1 =>
   (r96 v1 2).bind fun v2 =>
    (r96 ((a1_1.length : Int) == (a0_1.length : Int)) 10).bind fun v3 =>
     (r87 [v2, v3]).bind fun v4 =>
      some v4
def T100 : TSpec (Int × (List (Int × Int × Int)) × Int × (List (Bool))) where
  enc x := [.agg [.int .i64 x.1, encF 3 d_III x.2.1], .agg [.int .i64 x.2.2.1, encF 1 d_B x.2.2.2]]
  dec a := (dInt (aCell a 0 0), decF g_III (aCell a 0 1), dInt (aCell a 1 0), decF g_B (aCell a 1 1))
  pre x := (r100 x.1 x.2.1 x.2.2.1 x.2.2.2).isSome = true
  res x := [.c (.d (.int .i64 ((r100 x.1 x.2.1 x.2.2.1 x.2.2.2).getD default)))]
  al := false
def tb100 : Fns := lk [(87, T87.sp), (96, T96.sp), (97, T97.sp)]
theorem tb100_ok : FnsOk Try.prog tb100 := .cons f87 (.cons f96 (.cons f97 (FnsOk.nil)))
theorem tb100_87 : tb100 87 = some T87.sp := rfl
theorem tb100_96 : tb100 96 = some T96.sp := rfl
theorem tb100_97 : tb100 97 = some T97.sp := rfl
theorem v100 : Valid Try.prog 100 T100.sp := by
  refine valid_t (fn := Try.f100) (n := 19) ty_ok tb100_ok Try.func100 rfl Try.ntmps100 ?_
  rintro ⟨a0_0, a0_1, a1_0, a1_1⟩ hx
  obtain ⟨r, hr⟩ := Option.isSome_iff_exists.1 (show (r100 a0_0 a0_1 a1_0 a1_1).isSome = true from hx)
  have hres : T100.res (a0_0, a0_1, a1_0, a1_1) = [.c (.d (.int .i64 r))] := by simp only [T100, hr, Option.getD_some]
  refine ⟨Nat.le_of_ble_eq_true rfl, fun stop S => ?_⟩
  rw [hres] at S
  unfold r100 at hr
  refine S.goB [] 1000 ?_
  simp (maxSteps := 10000000) only [go_sem, tb100_87, T87, tb100_96, T96, tb100_97, T97, T100, Bool.not_true, Bool.not_false, Option.map_some, Int.reduceToNat, Nat.reduceEqDiff, Nat.reduceLT, Nat.reduceAdd, Nat.reduceMul, Nat.reduceSub, Nat.reduceLeDiff, reduceIte, reduceCtorEq, Try.results100]
  obtain ⟨v1, hv1, hr⟩ := of_bind0 hr
  obtain ⟨v2, hv2, hr⟩ := of_bind0 hr
  obtain ⟨v3, hv3, hr⟩ := of_bind0 hr
  obtain ⟨v4, hv4, hr⟩ := of_bind0 hr
  try simp only [hv1, hv2, hv3, hv4, Option.getD_some, Option.isSome_some, true_and, and_assoc]
  repeat refine gA ?_
  obtain rfl := Option.some.inj hr
  (simp (maxDischargeDepth := 8) [go_sem, -List.drop_one])
theorem f100 : FnFact Try.prog 100 T100.sp := ⟨⟨Try.f100, Try.func100, by decide, rfl⟩, v100⟩

/- martensite/field.CheckDrive -/
def r27 (a0_0 : Int) (a0_1 : List (Int × Int × Int)) (a1_0 : Int) (a1_1 : List (Bool)) : Option (Int) :=
  (r99 a0_0 a0_1).bind fun v1 =>
   (r100 a0_0 a0_1 a1_0 a1_1).bind fun v2 =>
    (r87 [v1, v2]).bind fun v3 =>
     some v3
def T27 : TSpec (Int × (List (Int × Int × Int)) × Int × (List (Bool))) where
  enc x := [.agg [.int .i64 x.1, encF 3 d_III x.2.1], .agg [.int .i64 x.2.2.1, encF 1 d_B x.2.2.2]]
  dec a := (dInt (aCell a 0 0), decF g_III (aCell a 0 1), dInt (aCell a 1 0), decF g_B (aCell a 1 1))
  pre x := (r27 x.1 x.2.1 x.2.2.1 x.2.2.2).isSome = true
  res x := [.c (.d (.int .i64 ((r27 x.1 x.2.1 x.2.2.1 x.2.2.2).getD default)))]
  al := false
def tb27 : Fns := lk [(87, T87.sp), (99, T99.sp), (100, T100.sp)]
theorem tb27_ok : FnsOk Try.prog tb27 := .cons f87 (.cons f99 (.cons f100 (FnsOk.nil)))
theorem tb27_87 : tb27 87 = some T87.sp := rfl
theorem tb27_99 : tb27 99 = some T99.sp := rfl
theorem tb27_100 : tb27 100 = some T100.sp := rfl
theorem v27 : Valid Try.prog 27 T27.sp := by
  refine valid_t (fn := Try.f27) (n := 12) ty_ok tb27_ok Try.func27 rfl Try.ntmps27 ?_
  rintro ⟨a0_0, a0_1, a1_0, a1_1⟩ hx
  obtain ⟨r, hr⟩ := Option.isSome_iff_exists.1 (show (r27 a0_0 a0_1 a1_0 a1_1).isSome = true from hx)
  have hres : T27.res (a0_0, a0_1, a1_0, a1_1) = [.c (.d (.int .i64 r))] := by simp only [T27, hr, Option.getD_some]
  refine ⟨Nat.le_of_ble_eq_true rfl, fun stop S => ?_⟩
  rw [hres] at S
  unfold r27 at hr
  refine S.goB [] 1000 ?_
  simp (maxSteps := 10000000) only [go_sem, tb27_87, T87, tb27_99, T99, tb27_100, T100, T27, Bool.not_true, Bool.not_false, Option.map_some, Int.reduceToNat, Nat.reduceEqDiff, Nat.reduceLT, Nat.reduceAdd, Nat.reduceMul, Nat.reduceSub, Nat.reduceLeDiff, reduceIte, reduceCtorEq, Try.results27]
  obtain ⟨v1, hv1, hr⟩ := of_bind0 hr
  obtain ⟨v2, hv2, hr⟩ := of_bind0 hr
  obtain ⟨v3, hv3, hr⟩ := of_bind0 hr
  try simp only [hv1, hv2, hv3, Option.getD_some, Option.isSome_some, true_and, and_assoc]
  repeat refine gA ?_
  obtain rfl := Option.some.inj hr
  (simp (maxDischargeDepth := 8) [go_sem, -List.drop_one])
theorem f27 : FnFact Try.prog 27 T27.sp := ⟨⟨Try.f27, Try.func27, by decide, rfl⟩, v27⟩

/- martensite/field.driven -/
def b119_1 (a0_1 : List (Int × Int × Int)) (a1_0 : Int) (a1_1 : List (Bool)) : (Int × (List (Int)) × (List (Int))) → Ctl (Int × (List (Int)) × (List (Int))) ((List (Int)) × (List (Int))) := fun s1 =>
  if (decide (s1.1 < (a0_1.length : Int))) = true then
   if 0 ≤ s1.1 ∧ s1.1 < (a0_1.length : Int) then
    if 0 ≤ s1.1 ∧ s1.1 < (a1_1.length : Int) then
     if (a1_1.getD s1.1.toNat default) = true then
      if (s1.2.1.length + 1) * 8 ≤ 140737488355328 ∧ s1.2.1.length + 1 ≤ 9223372036854775807 then
       if (s1.2.2.length + 1) * 8 ≤ 140737488355328 ∧ s1.2.2.length + 1 ≤ 9223372036854775807 then
        .next (IntKind.i64.wrap (s1.1 + 1), s1.2.1 ++ [(a0_1.getD s1.1.toNat default).1], s1.2.2 ++ [IntKind.i64.wrap (a1_0 * ((a0_1.getD s1.1.toNat default).2.2))])
        else .out none
       else .out none
      else if (s1.2.1.length + 1) * 8 ≤ 140737488355328 ∧ s1.2.1.length + 1 ≤ 9223372036854775807 then
       if (s1.2.2.length + 1) * 8 ≤ 140737488355328 ∧ s1.2.2.length + 1 ≤ 9223372036854775807 then
        .next (IntKind.i64.wrap (s1.1 + 1), s1.2.1 ++ [(a0_1.getD s1.1.toNat default).1], s1.2.2 ++ [IntKind.i64.wrap (a1_0 * ((a0_1.getD s1.1.toNat default).2.1))])
        else .out none
       else .out none
     else .out none
    else .out none
   else .out (some (s1.2.1, s1.2.2))
def r119 (a0_0 : Int) (a0_1 : List (Int × Int × Int)) (a1_0 : Int) (a1_1 : List (Bool)) : Option ((List (Int)) × (List (Int))) :=
  iterC (b119_1 a0_1 a1_0 a1_1) 1000000000 (0, [], [])
def T119 : TSpec (Int × (List (Int × Int × Int)) × Int × (List (Bool))) where
  enc x := [.agg [.int .i64 x.1, encF 3 d_III x.2.1], .agg [.int .i64 x.2.2.1, encF 1 d_B x.2.2.2]]
  dec a := (dInt (aCell a 0 0), decF g_III (aCell a 0 1), dInt (aCell a 1 0), decF g_B (aCell a 1 1))
  pre x := (r119 x.1 x.2.1 x.2.2.1 x.2.2.2).isSome = true
  res x := [.agg [.own (encF 1 d_I (((r119 x.1 x.2.1 x.2.2.1 x.2.2.2).getD default).1)), .own (encF 1 d_I (((r119 x.1 x.2.1 x.2.2.1 x.2.2.2).getD default).2))]]
  al := false
def tb119 : Fns := lk []
theorem tb119_ok : FnsOk Try.prog tb119 := FnsOk.nil
theorem v119 : Valid Try.prog 119 T119.sp := by
  refine valid_t (fn := Try.f119) (n := 44) ty_ok tb119_ok Try.func119 rfl Try.ntmps119 ?_
  rintro ⟨a0_0, a0_1, a1_0, a1_1⟩ hx
  obtain ⟨r, hr⟩ := Option.isSome_iff_exists.1 (show (r119 a0_0 a0_1 a1_0 a1_1).isSome = true from hx)
  have hres : T119.res (a0_0, a0_1, a1_0, a1_1) = [.agg [.own (encF 1 d_I r.1), .own (encF 1 d_I r.2)]] := by simp only [T119, hr, Option.getD_some]
  refine ⟨Nat.le_of_ble_eq_true rfl, fun stop S => ?_⟩
  rw [hres] at S
  unfold r119 at hr
  refine S.goB [] 1000 ?_
  simp (maxSteps := 10000000) only [go_sem, T119, Bool.not_true, Bool.not_false, Option.map_some, Int.reduceToNat, Nat.reduceEqDiff, Nat.reduceLT, Nat.reduceAdd, Nat.reduceMul, Nat.reduceSub, Nat.reduceLeDiff, reduceIte, reduceCtorEq, Try.results119]
  repeat refine gA ?_
  refine S.own0b 5 0 2000500 1 rfl rfl (Nat.le_of_ble_eq_true rfl) rfl ?_
  refine S.own0b 5 1 2000501 1 rfl rfl (Nat.le_of_ble_eq_true rfl) rfl ?_
  refine S.sees [3, 4, 5, 10, 11, 12] [(3, 3), (4, 4), (5, 5)] [(2000500, 2000500), (2000501, 2000501)] ?_ (Stop.iter S (fun s1 => ⟨[(3, .c (.ref 3 0)), (4, .c (.ref 4 0)), (5, .c (.ref 5 0)), (10, .c (.d (encF 3 d_III a0_1))), (11, .c (.d (.int .i64 (a0_1.length : Int)))), (12, .c (.d (.int .i64 s1.1)))], [(3, [.d (.int .i64 a1_0), .d (encF 1 d_B a1_1)]), (4, [.nils, .nils]), (5, [.own 2000500, .own 2000501])], [(2000500, .owned (encF 1 d_I s1.2.1)), (2000501, .owned (encF 1 d_I s1.2.2))]⟩) (b119_1 a0_1 a1_0 a1_1) (fun q => q = r) hr rfl ?_)
  · (simp (maxDischargeDepth := 8) [go_sem, -List.drop_one])
  · intro s1 hr
    unfold b119_1 at hr
    refine S.goB [] 1000 ?_
    simp (maxSteps := 10000000) only [go_sem, T119, Bool.not_true, Bool.not_false, Option.map_some, Int.reduceToNat, Nat.reduceEqDiff, Nat.reduceLT, Nat.reduceAdd, Nat.reduceMul, Nat.reduceSub, Nat.reduceLeDiff, reduceIte, reduceCtorEq, Try.results119]
    repeat refine gA ?_
    refine ⟨fun hc => ?_, fun hc => ?_⟩
    · replace hr := ifP1 hr hc
      obtain ⟨hg5, hr⟩ := of_guard1 hr
      obtain ⟨hg6, hr⟩ := of_guard1 hr
      repeat refine gA ?_
      refine ⟨fun hc => ?_, fun hc => ?_⟩
      · replace hr := ifP1 hr hc
        obtain ⟨hg1, hr⟩ := of_guard1 hr
        obtain ⟨hg2, hr⟩ := of_guard1 hr
        repeat refine gA ?_
        refine S.sees [3, 4, 5, 10, 11, 12] [(3, 3), (4, 4), (5, 5)] [(31, 2000500), (40, 2000501)] ?_ hr
        (simp (maxDischargeDepth := 8) [go_sem, -List.drop_one])
      · replace hr := ifN1 hr hc
        obtain ⟨hg3, hr⟩ := of_guard1 hr
        obtain ⟨hg4, hr⟩ := of_guard1 hr
        repeat refine gA ?_
        refine S.sees [3, 4, 5, 10, 11, 12] [(3, 3), (4, 4), (5, 5)] [(31, 2000500), (40, 2000501)] ?_ hr
        (simp (maxDischargeDepth := 8) [go_sem, -List.drop_one])
    · replace hr := ifN1 hr hc
      repeat refine gA ?_
      have hr := of_out0 hr
      repeat refine gA ?_
      obtain rfl := Option.some.inj hr
      (simp (maxDischargeDepth := 8) [go_sem, -List.drop_one])
theorem f119 : FnFact Try.prog 119 T119.sp := ⟨⟨Try.f119, Try.func119, by decide, rfl⟩, v119⟩

/- martensite/field.open -/
def r83 (a0_0 : Int) (a0_1 : List (Int × Int × Int)) (a1_0 : Int) (a1_1 : List (Bool)) : Option ((List (Int)) × (List (Int)) × Int) :=
  (r27 a0_0 a0_1 a1_0 a1_1).bind fun v1 =>
   if (v1 != 0) = true then
    some ([], [], v1)
    else (r119 a0_0 a0_1 a1_0 a1_1).bind fun v2 =>
     some (v2.1, v2.2, 0)
def T83 : TSpec (Int × (List (Int × Int × Int)) × Int × (List (Bool))) where
  enc x := [.agg [.int .i64 x.1, encF 3 d_III x.2.1], .agg [.int .i64 x.2.2.1, encF 1 d_B x.2.2.2]]
  dec a := (dInt (aCell a 0 0), decF g_III (aCell a 0 1), dInt (aCell a 1 0), decF g_B (aCell a 1 1))
  pre x := (r83 x.1 x.2.1 x.2.2.1 x.2.2.2).isSome = true
  res x := [.agg [.own (encF 1 d_I (((r83 x.1 x.2.1 x.2.2.1 x.2.2.2).getD default).1)), .own (encF 1 d_I (((r83 x.1 x.2.1 x.2.2.1 x.2.2.2).getD default).2.1))], .c (.d (.int .i64 (((r83 x.1 x.2.1 x.2.2.1 x.2.2.2).getD default).2.2)))]
  al := false
def tb83 : Fns := lk [(27, T27.sp), (119, T119.sp)]
theorem tb83_ok : FnsOk Try.prog tb83 := .cons f27 (.cons f119 (FnsOk.nil))
theorem tb83_27 : tb83 27 = some T27.sp := rfl
theorem tb83_119 : tb83 119 = some T119.sp := rfl
theorem v83 : Valid Try.prog 83 T83.sp := by
  refine valid_t (fn := Try.f83) (n := 17) ty_ok tb83_ok Try.func83 rfl Try.ntmps83 ?_
  rintro ⟨a0_0, a0_1, a1_0, a1_1⟩ hx
  obtain ⟨r, hr⟩ := Option.isSome_iff_exists.1 (show (r83 a0_0 a0_1 a1_0 a1_1).isSome = true from hx)
  have hres : T83.res (a0_0, a0_1, a1_0, a1_1) = [.agg [.own (encF 1 d_I r.1), .own (encF 1 d_I r.2.1)], .c (.d (.int .i64 r.2.2))] := by simp only [T83, hr, Option.getD_some]
  refine ⟨Nat.le_of_ble_eq_true rfl, fun stop S => ?_⟩
  rw [hres] at S
  unfold r83 at hr
  refine S.goB [] 1000 ?_
  simp (maxSteps := 10000000) only [go_sem, tb83_27, T27, tb83_119, T119, T83, Bool.not_true, Bool.not_false, Option.map_some, Int.reduceToNat, Nat.reduceEqDiff, Nat.reduceLT, Nat.reduceAdd, Nat.reduceMul, Nat.reduceSub, Nat.reduceLeDiff, reduceIte, reduceCtorEq, Try.results83]
  obtain ⟨v1, hv1, hr⟩ := of_bind0 hr
  try simp only [hv1, Option.getD_some, Option.isSome_some, true_and, and_assoc]
  repeat refine gA ?_
  refine ⟨fun hc => ?_, fun hc => ?_⟩
  · replace hr := ifP hr hc
    repeat refine gA ?_
    obtain rfl := Option.some.inj hr
    (simp (maxDischargeDepth := 8) [go_sem, -List.drop_one])
  · replace hr := ifN hr hc
    obtain ⟨v2, hv2, hr⟩ := of_bind0 hr
    try simp only [hv2, Option.getD_some, Option.isSome_some, true_and, and_assoc]
    repeat refine gA ?_
    obtain rfl := Option.some.inj hr
    (simp (maxDischargeDepth := 8) [go_sem, -List.drop_one])
theorem f83 : FnFact Try.prog 83 T83.sp := ⟨⟨Try.f83, Try.func83, by decide, rfl⟩, v83⟩

/- martensite/field.scaled -/
def r86 (a0_0 : Int) (a0_1 : Int) (a1 : Int) : Option (Int × Int) :=
  some (IntKind.i64.wrap (a1 * a0_0), IntKind.i64.wrap (a1 * a0_1))
def T86 : TSpec (Int × Int × Int) where
  enc x := [.agg [.int .i64 x.1, .int .i64 x.2.1], .c (.int .i64 x.2.2)]
  dec a := (dInt (aCell a 0 0), dInt (aCell a 0 1), dInt (aCell a 1 0))
  pre x := (r86 x.1 x.2.1 x.2.2).isSome = true
  res x := [.agg [.d (.int .i64 (((r86 x.1 x.2.1 x.2.2).getD default).1)), .d (.int .i64 (((r86 x.1 x.2.1 x.2.2).getD default).2))]]
  al := false
def tb86 : Fns := lk []
theorem tb86_ok : FnsOk Try.prog tb86 := FnsOk.nil
theorem v86 : Valid Try.prog 86 T86.sp := by
  refine valid_t (fn := Try.f86) (n := 14) ty_ok tb86_ok Try.func86 rfl Try.ntmps86 ?_
  rintro ⟨a0_0, a0_1, a1⟩ hx
  obtain ⟨r, hr⟩ := Option.isSome_iff_exists.1 (show (r86 a0_0 a0_1 a1).isSome = true from hx)
  have hres : T86.res (a0_0, a0_1, a1) = [.agg [.d (.int .i64 r.1), .d (.int .i64 r.2)]] := by simp only [T86, hr, Option.getD_some]
  refine ⟨Nat.le_of_ble_eq_true rfl, fun stop S => ?_⟩
  rw [hres] at S
  unfold r86 at hr
  refine S.goB [] 1000 ?_
  simp (maxSteps := 10000000) only [go_sem, T86, Bool.not_true, Bool.not_false, Option.map_some, Int.reduceToNat, Nat.reduceEqDiff, Nat.reduceLT, Nat.reduceAdd, Nat.reduceMul, Nat.reduceSub, Nat.reduceLeDiff, reduceIte, reduceCtorEq, Try.results86]
  repeat refine gA ?_
  obtain rfl := Option.some.inj hr
  (simp (maxDischargeDepth := 8) [go_sem, -List.drop_one])
theorem f86 : FnFact Try.prog 86 T86.sp := ⟨⟨Try.f86, Try.func86, by decide, rfl⟩, v86⟩

/- martensite/field.plus -/
def r89 (a0_0 : Int) (a0_1 : Int) (a1_0 : Int) (a1_1 : Int) : Option (Int × Int) :=
  some (IntKind.i64.wrap (a0_0 + a1_0), IntKind.i64.wrap (a0_1 + a1_1))
def T89 : TSpec (Int × Int × Int × Int) where
  enc x := [.agg [.int .i64 x.1, .int .i64 x.2.1], .agg [.int .i64 x.2.2.1, .int .i64 x.2.2.2]]
  dec a := (dInt (aCell a 0 0), dInt (aCell a 0 1), dInt (aCell a 1 0), dInt (aCell a 1 1))
  pre x := (r89 x.1 x.2.1 x.2.2.1 x.2.2.2).isSome = true
  res x := [.agg [.d (.int .i64 (((r89 x.1 x.2.1 x.2.2.1 x.2.2.2).getD default).1)), .d (.int .i64 (((r89 x.1 x.2.1 x.2.2.1 x.2.2.2).getD default).2))]]
  al := false
def tb89 : Fns := lk []
theorem tb89_ok : FnsOk Try.prog tb89 := FnsOk.nil
theorem v89 : Valid Try.prog 89 T89.sp := by
  refine valid_t (fn := Try.f89) (n := 16) ty_ok tb89_ok Try.func89 rfl Try.ntmps89 ?_
  rintro ⟨a0_0, a0_1, a1_0, a1_1⟩ hx
  obtain ⟨r, hr⟩ := Option.isSome_iff_exists.1 (show (r89 a0_0 a0_1 a1_0 a1_1).isSome = true from hx)
  have hres : T89.res (a0_0, a0_1, a1_0, a1_1) = [.agg [.d (.int .i64 r.1), .d (.int .i64 r.2)]] := by simp only [T89, hr, Option.getD_some]
  refine ⟨Nat.le_of_ble_eq_true rfl, fun stop S => ?_⟩
  rw [hres] at S
  unfold r89 at hr
  refine S.goB [] 1000 ?_
  simp (maxSteps := 10000000) only [go_sem, T89, Bool.not_true, Bool.not_false, Option.map_some, Int.reduceToNat, Nat.reduceEqDiff, Nat.reduceLT, Nat.reduceAdd, Nat.reduceMul, Nat.reduceSub, Nat.reduceLeDiff, reduceIte, reduceCtorEq, Try.results89]
  repeat refine gA ?_
  obtain rfl := Option.some.inj hr
  (simp (maxDischargeDepth := 8) [go_sem, -List.drop_one])
theorem f89 : FnFact Try.prog 89 T89.sp := ⟨⟨Try.f89, Try.func89, by decide, rfl⟩, v89⟩

/- martensite/field.turned -/
def r90 (a0_0 : Int) (a0_1 : Int) (a1 : Int) : Option (Int × Int) :=
  some (IntKind.i64.wrap ((IntKind.i64.wrap (0 - a1)) * a0_1), IntKind.i64.wrap (a1 * a0_0))
def T90 : TSpec (Int × Int × Int) where
  enc x := [.agg [.int .i64 x.1, .int .i64 x.2.1], .c (.int .i64 x.2.2)]
  dec a := (dInt (aCell a 0 0), dInt (aCell a 0 1), dInt (aCell a 1 0))
  pre x := (r90 x.1 x.2.1 x.2.2).isSome = true
  res x := [.agg [.d (.int .i64 (((r90 x.1 x.2.1 x.2.2).getD default).1)), .d (.int .i64 (((r90 x.1 x.2.1 x.2.2).getD default).2))]]
  al := false
def tb90 : Fns := lk []
theorem tb90_ok : FnsOk Try.prog tb90 := FnsOk.nil
theorem v90 : Valid Try.prog 90 T90.sp := by
  refine valid_t (fn := Try.f90) (n := 15) ty_ok tb90_ok Try.func90 rfl Try.ntmps90 ?_
  rintro ⟨a0_0, a0_1, a1⟩ hx
  obtain ⟨r, hr⟩ := Option.isSome_iff_exists.1 (show (r90 a0_0 a0_1 a1).isSome = true from hx)
  have hres : T90.res (a0_0, a0_1, a1) = [.agg [.d (.int .i64 r.1), .d (.int .i64 r.2)]] := by simp only [T90, hr, Option.getD_some]
  refine ⟨Nat.le_of_ble_eq_true rfl, fun stop S => ?_⟩
  rw [hres] at S
  unfold r90 at hr
  refine S.goB [] 1000 ?_
  simp (maxSteps := 10000000) only [go_sem, T90, Bool.not_true, Bool.not_false, Option.map_some, Int.reduceToNat, Nat.reduceEqDiff, Nat.reduceLT, Nat.reduceAdd, Nat.reduceMul, Nat.reduceSub, Nat.reduceLeDiff, reduceIte, reduceCtorEq, Try.results90]
  repeat refine gA ?_
  obtain rfl := Option.some.inj hr
  (simp (maxDischargeDepth := 8) [go_sem, -List.drop_one])
theorem f90 : FnFact Try.prog 90 T90.sp := ⟨⟨Try.f90, Try.func90, by decide, rfl⟩, v90⟩

/- (martensite/field.ladder).before -/
def r116 (a0_0 : List (Int)) (a0_1 : List (Int)) (a1 : Int) (a2_0 : Int) (a2_1 : Int) (a3_0 : Int) (a3_1 : Int) : Option (Int × Int × Int × Int) :=
  if 0 ≤ a1 ∧ a1 < (a0_0.length : Int) then
   (r86 a2_0 a2_1 (a0_0.getD a1.toNat default)).bind fun v1 =>
    (r89 a3_0 a3_1 v1.1 v1.2).bind fun v2 =>
     if 0 ≤ a1 ∧ a1 < (a0_1.length : Int) then
      (r90 v2.1 v2.2 (a0_1.getD a1.toNat default)).bind fun v3 =>
       (r89 a2_0 a2_1 v3.1 v3.2).bind fun v4 =>
        some (v2.1, v2.2, v4.1, v4.2)
      else none
   else none
def T116 : TSpec ((List (Int)) × (List (Int)) × Int × Int × Int × Int × Int) where
  enc x := [.agg [encF 1 d_I x.1, encF 1 d_I x.2.1], .c (.int .i64 x.2.2.1), .agg [.int .i64 x.2.2.2.1, .int .i64 x.2.2.2.2.1], .agg [.int .i64 x.2.2.2.2.2.1, .int .i64 x.2.2.2.2.2.2]]
  dec a := (decF g_I (aCell a 0 0), decF g_I (aCell a 0 1), dInt (aCell a 1 0), dInt (aCell a 2 0), dInt (aCell a 2 1), dInt (aCell a 3 0), dInt (aCell a 3 1))
  pre x := (r116 x.1 x.2.1 x.2.2.1 x.2.2.2.1 x.2.2.2.2.1 x.2.2.2.2.2.1 x.2.2.2.2.2.2).isSome = true
  res x := [.agg [.d (.int .i64 (((r116 x.1 x.2.1 x.2.2.1 x.2.2.2.1 x.2.2.2.2.1 x.2.2.2.2.2.1 x.2.2.2.2.2.2).getD default).1)), .d (.int .i64 (((r116 x.1 x.2.1 x.2.2.1 x.2.2.2.1 x.2.2.2.2.1 x.2.2.2.2.2.1 x.2.2.2.2.2.2).getD default).2.1))], .agg [.d (.int .i64 (((r116 x.1 x.2.1 x.2.2.1 x.2.2.2.1 x.2.2.2.2.1 x.2.2.2.2.2.1 x.2.2.2.2.2.2).getD default).2.2.1)), .d (.int .i64 (((r116 x.1 x.2.1 x.2.2.1 x.2.2.2.1 x.2.2.2.2.1 x.2.2.2.2.2.1 x.2.2.2.2.2.2).getD default).2.2.2))]]
  al := false
def tb116 : Fns := lk [(86, T86.sp), (89, T89.sp), (90, T90.sp)]
theorem tb116_ok : FnsOk Try.prog tb116 := .cons f86 (.cons f89 (.cons f90 (FnsOk.nil)))
theorem tb116_86 : tb116 86 = some T86.sp := rfl
theorem tb116_89 : tb116 89 = some T89.sp := rfl
theorem tb116_90 : tb116 90 = some T90.sp := rfl
theorem v116 : Valid Try.prog 116 T116.sp := by
  refine valid_t (fn := Try.f116) (n := 29) ty_ok tb116_ok Try.func116 rfl Try.ntmps116 ?_
  rintro ⟨a0_0, a0_1, a1, a2_0, a2_1, a3_0, a3_1⟩ hx
  obtain ⟨r, hr⟩ := Option.isSome_iff_exists.1 (show (r116 a0_0 a0_1 a1 a2_0 a2_1 a3_0 a3_1).isSome = true from hx)
  have hres : T116.res (a0_0, a0_1, a1, a2_0, a2_1, a3_0, a3_1) = [.agg [.d (.int .i64 r.1), .d (.int .i64 r.2.1)], .agg [.d (.int .i64 r.2.2.1), .d (.int .i64 r.2.2.2)]] := by simp only [T116, hr, Option.getD_some]
  refine ⟨Nat.le_of_ble_eq_true rfl, fun stop S => ?_⟩
  rw [hres] at S
  unfold r116 at hr
  refine S.goB [] 1000 ?_
  simp (maxSteps := 10000000) only [go_sem, tb116_86, T86, tb116_89, T89, tb116_90, T90, T116, Bool.not_true, Bool.not_false, Option.map_some, Int.reduceToNat, Nat.reduceEqDiff, Nat.reduceLT, Nat.reduceAdd, Nat.reduceMul, Nat.reduceSub, Nat.reduceLeDiff, reduceIte, reduceCtorEq, Try.results116]
  obtain ⟨hg5, hr⟩ := of_guard0 hr
  obtain ⟨v1, hv1, hr⟩ := of_bind0 hr
  obtain ⟨v2, hv2, hr⟩ := of_bind0 hr
  obtain ⟨hg6, hr⟩ := of_guard0 hr
  obtain ⟨v3, hv3, hr⟩ := of_bind0 hr
  obtain ⟨v4, hv4, hr⟩ := of_bind0 hr
  try simp only [hv1, hv2, hv3, hv4, Option.getD_some, Option.isSome_some, true_and, and_assoc]
  repeat refine gA ?_
  obtain rfl := Option.some.inj hr
  (simp (maxDischargeDepth := 8) [go_sem, -List.drop_one])
theorem f116 : FnFact Try.prog 116 T116.sp := ⟨⟨Try.f116, Try.func116, by decide, rfl⟩, v116⟩
end Go.Proofs.Ytagnplbfdaifkaa

/- Contracts of functions, written by wip/dec. -/
import Derived.Test.YtagnplbfdaifkaaF00
set_option linter.unusedVariables false
set_option linter.unusedSimpArgs false
set_option maxHeartbeats 4000000
set_option maxRecDepth 20000
namespace Go.Proofs.Ytagnplbfdaifkaa
open Go.Abs
/- martensite/martensitelaw02.few -/
def r16 (a0_0 : Int) (a0_1 : List (Int × Int × Int)) : Option (Bool) :=
  some (decide ((a0_1.length : Int) ≤ 6))
def T16 : TSpec (Int × (List (Int × Int × Int))) where
  enc x := [.agg [.int .i64 x.1, encF 3 d_III x.2]]
  dec a := (dInt (aCell a 0 0), decF g_III (aCell a 0 1))
  pre x := (r16 x.1 x.2).isSome = true
  res x := [.c (.d (.bool ((r16 x.1 x.2).getD default)))]
  al := false
def tb16 : Fns := lk []
theorem tb16_ok : FnsOk Try.prog tb16 := FnsOk.nil
theorem v16 : Valid Try.prog 16 T16.sp := by
  refine valid_t (fn := Try.f16) (n := 7) ty_ok tb16_ok Try.func16 rfl Try.ntmps16 ?_
  rintro ⟨a0_0, a0_1⟩ hx
  obtain ⟨r, hr⟩ := Option.isSome_iff_exists.1 (show (r16 a0_0 a0_1).isSome = true from hx)
  have hres : T16.res (a0_0, a0_1) = [.c (.d (.bool r))] := by simp only [T16, hr, Option.getD_some]
  refine ⟨Nat.le_of_ble_eq_true rfl, fun stop S => ?_⟩
  rw [hres] at S
  unfold r16 at hr
  refine S.goB [] 1000 ?_
  simp (maxSteps := 10000000) only [go_sem, T16, Bool.not_true, Bool.not_false, Option.map_some, Int.reduceToNat, Nat.reduceEqDiff, Nat.reduceLT, Nat.reduceAdd, Nat.reduceMul, Nat.reduceSub, Nat.reduceLeDiff, reduceIte, reduceCtorEq, Try.results16]
  repeat refine gA ?_
  obtain rfl := Option.some.inj hr
  (simp (maxDischargeDepth := 8) [go_sem, -List.drop_one])
theorem f16 : FnFact Try.prog 16 T16.sp := ⟨⟨Try.f16, Try.func16, by decide, rfl⟩, v16⟩

/- martensite/martensitelaw02.fewHot -/
def r17 (a0_0 : Int) (a0_1 : List (Bool)) : Option (Bool) :=
  some (decide ((a0_1.length : Int) ≤ 6))
def T17 : TSpec (Int × (List (Bool))) where
  enc x := [.agg [.int .i64 x.1, encF 1 d_B x.2]]
  dec a := (dInt (aCell a 0 0), decF g_B (aCell a 0 1))
  pre x := (r17 x.1 x.2).isSome = true
  res x := [.c (.d (.bool ((r17 x.1 x.2).getD default)))]
  al := false
def tb17 : Fns := lk []
theorem tb17_ok : FnsOk Try.prog tb17 := FnsOk.nil
theorem v17 : Valid Try.prog 17 T17.sp := by
  refine valid_t (fn := Try.f17) (n := 7) ty_ok tb17_ok Try.func17 rfl Try.ntmps17 ?_
  rintro ⟨a0_0, a0_1⟩ hx
  obtain ⟨r, hr⟩ := Option.isSome_iff_exists.1 (show (r17 a0_0 a0_1).isSome = true from hx)
  have hres : T17.res (a0_0, a0_1) = [.c (.d (.bool r))] := by simp only [T17, hr, Option.getD_some]
  refine ⟨Nat.le_of_ble_eq_true rfl, fun stop S => ?_⟩
  rw [hres] at S
  unfold r17 at hr
  refine S.goB [] 1000 ?_
  simp (maxSteps := 10000000) only [go_sem, T17, Bool.not_true, Bool.not_false, Option.map_some, Int.reduceToNat, Nat.reduceEqDiff, Nat.reduceLT, Nat.reduceAdd, Nat.reduceMul, Nat.reduceSub, Nat.reduceLeDiff, reduceIte, reduceCtorEq, Try.results17]
  repeat refine gA ?_
  obtain rfl := Option.some.inj hr
  (simp (maxDischargeDepth := 8) [go_sem, -List.drop_one])
theorem f17 : FnFact Try.prog 17 T17.sp := ⟨⟨Try.f17, Try.func17, by decide, rfl⟩, v17⟩

/- martensite/martensiteref02.CopyLadder -/
def r19 (a0_0 : Int) (a0_1 : List (Int × Int × Int)) : Option (Int × (List (Int × Int × Int))) :=
  if (0 + a0_1.length) * 24 ≤ 140737488355328 ∧ 0 + a0_1.length ≤ 9223372036854775807 then
   some (a0_0, a0_1)
   else none
def T19 : TSpec (Int × (List (Int × Int × Int))) where
  enc x := [.agg [.int .i64 x.1, encF 3 d_III x.2]]
  dec a := (dInt (aCell a 0 0), decF g_III (aCell a 0 1))
  pre x := (r19 x.1 x.2).isSome = true
  res x := [.agg [.d (.int .i64 (((r19 x.1 x.2).getD default).1)), .own (encF 3 d_III (((r19 x.1 x.2).getD default).2))]]
  al := false
def tb19 : Fns := lk []
theorem tb19_ok : FnsOk Try.prog tb19 := FnsOk.nil
theorem v19 : Valid Try.prog 19 T19.sp := by
  refine valid_t (fn := Try.f19) (n := 9) ty_ok tb19_ok Try.func19 rfl Try.ntmps19 ?_
  rintro ⟨a0_0, a0_1⟩ hx
  obtain ⟨r, hr⟩ := Option.isSome_iff_exists.1 (show (r19 a0_0 a0_1).isSome = true from hx)
  have hres : T19.res (a0_0, a0_1) = [.agg [.d (.int .i64 r.1), .own (encF 3 d_III r.2)]] := by simp only [T19, hr, Option.getD_some]
  refine ⟨Nat.le_of_ble_eq_true rfl, fun stop S => ?_⟩
  rw [hres] at S
  unfold r19 at hr
  refine S.goB [] 1000 ?_
  simp (maxSteps := 10000000) only [go_sem, T19, Bool.not_true, Bool.not_false, Option.map_some, Int.reduceToNat, Nat.reduceEqDiff, Nat.reduceLT, Nat.reduceAdd, Nat.reduceMul, Nat.reduceSub, Nat.reduceLeDiff, reduceIte, reduceCtorEq, Try.results19]
  obtain ⟨hg1, hr⟩ := of_guard0 hr
  repeat refine gA ?_
  obtain rfl := Option.some.inj hr
  (simp (maxDischargeDepth := 8) [go_sem, -List.drop_one])
theorem f19 : FnFact Try.prog 19 T19.sp := ⟨⟨Try.f19, Try.func19, by decide, rfl⟩, v19⟩

/- martensite/martensiteref02.CopyBools -/
def r69 (a0 : List (Bool)) : Option ((List (Bool))) :=
  if (0 + a0.length) * 1 ≤ 140737488355328 ∧ 0 + a0.length ≤ 9223372036854775807 then
   some a0
   else none
def T69 : TSpec ((List (Bool))) where
  enc x := [.c (encF 1 d_B x)]
  dec a := decF g_B (aCell a 0 0)
  pre x := (r69 x).isSome = true
  res x := [.c (.own (encF 1 d_B ((r69 x).getD default)))]
  al := false
def tb69 : Fns := lk []
theorem tb69_ok : FnsOk Try.prog tb69 := FnsOk.nil
theorem v69 : Valid Try.prog 69 T69.sp := by
  refine valid_t (fn := Try.f69) (n := 6) ty_ok tb69_ok Try.func69 rfl Try.ntmps69 ?_
  rintro a0 hx
  obtain ⟨r, hr⟩ := Option.isSome_iff_exists.1 (show (r69 a0).isSome = true from hx)
  have hres : T69.res a0 = [.c (.own (encF 1 d_B r))] := by simp only [T69, hr, Option.getD_some]
  refine ⟨Nat.le_of_ble_eq_true rfl, fun stop S => ?_⟩
  rw [hres] at S
  unfold r69 at hr
  refine S.goB [] 1000 ?_
  simp (maxSteps := 10000000) only [go_sem, T69, Bool.not_true, Bool.not_false, Option.map_some, Int.reduceToNat, Nat.reduceEqDiff, Nat.reduceLT, Nat.reduceAdd, Nat.reduceMul, Nat.reduceSub, Nat.reduceLeDiff, reduceIte, reduceCtorEq, Try.results69]
  obtain ⟨hg1, hr⟩ := of_guard0 hr
  repeat refine gA ?_
  obtain rfl := Option.some.inj hr
  (simp (maxDischargeDepth := 8) [go_sem, -List.drop_one])
theorem f69 : FnFact Try.prog 69 T69.sp := ⟨⟨Try.f69, Try.func69, by decide, rfl⟩, v69⟩

/- martensite/martensiteref02.CopyDrive -/
def r20 (a0_0 : Int) (a0_1 : List (Bool)) : Option (Int × (List (Bool))) :=
  (r69 a0_1).bind fun v1 =>
   some (a0_0, v1)
def T20 : TSpec (Int × (List (Bool))) where
  enc x := [.agg [.int .i64 x.1, encF 1 d_B x.2]]
  dec a := (dInt (aCell a 0 0), decF g_B (aCell a 0 1))
  pre x := (r20 x.1 x.2).isSome = true
  res x := [.agg [.d (.int .i64 (((r20 x.1 x.2).getD default).1)), .own (encF 1 d_B (((r20 x.1 x.2).getD default).2))]]
  al := false
def tb20 : Fns := lk [(69, T69.sp)]
theorem tb20_ok : FnsOk Try.prog tb20 := .cons f69 (FnsOk.nil)
theorem tb20_69 : tb20 69 = some T69.sp := rfl
theorem v20 : Valid Try.prog 20 T20.sp := by
  refine valid_t (fn := Try.f20) (n := 8) ty_ok tb20_ok Try.func20 rfl Try.ntmps20 ?_
  rintro ⟨a0_0, a0_1⟩ hx
  obtain ⟨r, hr⟩ := Option.isSome_iff_exists.1 (show (r20 a0_0 a0_1).isSome = true from hx)
  have hres : T20.res (a0_0, a0_1) = [.agg [.d (.int .i64 r.1), .own (encF 1 d_B r.2)]] := by simp only [T20, hr, Option.getD_some]
  refine ⟨Nat.le_of_ble_eq_true rfl, fun stop S => ?_⟩
  rw [hres] at S
  unfold r20 at hr
  refine S.goB [] 1000 ?_
  simp (maxSteps := 10000000) only [go_sem, tb20_69, T69, T20, Bool.not_true, Bool.not_false, Option.map_some, Int.reduceToNat, Nat.reduceEqDiff, Nat.reduceLT, Nat.reduceAdd, Nat.reduceMul, Nat.reduceSub, Nat.reduceLeDiff, reduceIte, reduceCtorEq, Try.results20]
  obtain ⟨v1, hv1, hr⟩ := of_bind0 hr
  try simp only [hv1, Option.getD_some, Option.isSome_some, true_and, and_assoc]
  repeat refine gA ?_
  obtain rfl := Option.some.inj hr
  (simp (maxDischargeDepth := 8) [go_sem, -List.drop_one])
theorem f20 : FnFact Try.prog 20 T20.sp := ⟨⟨Try.f20, Try.func20, by decide, rfl⟩, v20⟩

/- martensite/martensitebase.Within -/
def r33 (a0 : Int) (a1 : Int) (a2 : Int) : Option (Bool) :=
  some ((decide (a1 ≤ a0)) && (decide (a0 ≤ a2)))
def T33 : TSpec (Int × Int × Int) where
  enc x := [.c (.int .i64 x.1), .c (.int .i64 x.2.1), .c (.int .i64 x.2.2)]
  dec a := (dInt (aCell a 0 0), dInt (aCell a 1 0), dInt (aCell a 2 0))
  pre x := (r33 x.1 x.2.1 x.2.2).isSome = true
  res x := [.c (.d (.bool ((r33 x.1 x.2.1 x.2.2).getD default)))]
  al := false
def tb33 : Fns := lk []
theorem tb33_ok : FnsOk Try.prog tb33 := FnsOk.nil
theorem v33 : Valid Try.prog 33 T33.sp := by
  refine valid_t (fn := Try.f33) (n := 15) ty_ok tb33_ok Try.func33 rfl Try.ntmps33 ?_
  rintro ⟨a0, a1, a2⟩ hx
  obtain ⟨r, hr⟩ := Option.isSome_iff_exists.1 (show (r33 a0 a1 a2).isSome = true from hx)
  have hres : T33.res (a0, a1, a2) = [.c (.d (.bool r))] := by simp only [T33, hr, Option.getD_some]
  refine ⟨Nat.le_of_ble_eq_true rfl, fun stop S => ?_⟩
  rw [hres] at S
  unfold r33 at hr
  refine S.goB [] 1000 ?_
  simp (maxSteps := 10000000) only [go_sem, T33, Bool.not_true, Bool.not_false, Option.map_some, Int.reduceToNat, Nat.reduceEqDiff, Nat.reduceLT, Nat.reduceAdd, Nat.reduceMul, Nat.reduceSub, Nat.reduceLeDiff, reduceIte, reduceCtorEq, Try.results33]
  repeat (first | refine gA ?_ | refine gB ?_)
  obtain rfl := Option.some.inj hr
  (simp (maxDischargeDepth := 8) [go_sem, -List.drop_one])
theorem f33 : FnFact Try.prog 33 T33.sp := ⟨⟨Try.f33, Try.func33, by decide, rfl⟩, v33⟩

/- martensite/martensiteref02.CheckLadder -/
def b29_1 (a0_1 : List (Int × Int × Int)) : (Int) → Ctl (Int) (Int × Int) := fun s1 =>
  if (decide (s1 < (a0_1.length : Int))) = true then
   if 0 ≤ s1 ∧ s1 < (a0_1.length : Int) then
    bindC (r33 ((a0_1.getD s1.toNat default).1) 1 4) fun v2 =>
     if (!(!v2)) = true → (r33 ((a0_1.getD s1.toNat default).2.1) 1 4).isSome = true then
      if (!((!v2) || (!((r33 ((a0_1.getD s1.toNat default).2.1) 1 4).getD default)))) = true → (r33 ((a0_1.getD s1.toNat default).2.2) 1 4).isSome = true then
       if (((!v2) || (!((r33 ((a0_1.getD s1.toNat default).2.1) 1 4).getD default))) || (!((r33 ((a0_1.getD s1.toNat default).2.2) 1 4).getD default))) = true then
        .out (some (s1, 2))
        else if (decide (((a0_1.getD s1.toNat default).2.2) > ((a0_1.getD s1.toNat default).2.1))) = true then
         .out (some (s1, 9))
         else .next (IntKind.i64.wrap (s1 + 1))
       else .out none
      else .out none
    else .out none
   else .out (some (0, 0))
def r29 (a0_0 : Int) (a0_1 : List (Int × Int × Int)) : Option (Int × Int) :=
  (r33 a0_0 1 20).bind fun v1 =>
   if (!v1) = true then
    some (0, 2)
    else if ((a0_1.length : Int) == 0) = true then
     some (0, 10)
     else if (decide ((a0_1.length : Int) > 4)) = true then
      some (0, 8)
      else iterC (b29_1 a0_1) 1000000000 0
def T29 : TSpec (Int × (List (Int × Int × Int))) where
  enc x := [.agg [.int .i64 x.1, encF 3 d_III x.2]]
  dec a := (dInt (aCell a 0 0), decF g_III (aCell a 0 1))
  pre x := (r29 x.1 x.2).isSome = true
  res x := [.c (.d (.int .i64 (((r29 x.1 x.2).getD default).1))), .c (.d (.int .i64 (((r29 x.1 x.2).getD default).2)))]
  al := false
def tb29 : Fns := lk [(33, T33.sp)]
theorem tb29_ok : FnsOk Try.prog tb29 := .cons f33 (FnsOk.nil)
theorem tb29_33 : tb29 33 = some T33.sp := rfl
theorem v29 : Valid Try.prog 29 T29.sp := by
  refine valid_t (fn := Try.f29) (n := 53) ty_ok tb29_ok Try.func29 rfl Try.ntmps29 ?_
  rintro ⟨a0_0, a0_1⟩ hx
  obtain ⟨r, hr⟩ := Option.isSome_iff_exists.1 (show (r29 a0_0 a0_1).isSome = true from hx)
  have hres : T29.res (a0_0, a0_1) = [.c (.d (.int .i64 r.1)), .c (.d (.int .i64 r.2))] := by simp only [T29, hr, Option.getD_some]
  refine ⟨Nat.le_of_ble_eq_true rfl, fun stop S => ?_⟩
  rw [hres] at S
  unfold r29 at hr
  refine S.goB [] 1000 ?_
  simp (maxSteps := 10000000) only [go_sem, tb29_33, T33, T29, Bool.not_true, Bool.not_false, Option.map_some, Int.reduceToNat, Nat.reduceEqDiff, Nat.reduceLT, Nat.reduceAdd, Nat.reduceMul, Nat.reduceSub, Nat.reduceLeDiff, reduceIte, reduceCtorEq, Try.results29]
  obtain ⟨v1, hv1, hr⟩ := of_bind0 hr
  try simp only [hv1, Option.getD_some, Option.isSome_some, true_and, and_assoc]
  repeat refine gA ?_
  refine ⟨fun hc => ?_, fun hc => ?_⟩
  · replace hr := ifP hr hc
    repeat refine gA ?_
    obtain rfl := Option.some.inj hr
    (simp (maxDischargeDepth := 8) [go_sem, -List.drop_one])
  · replace hr := ifN hr hc
    repeat refine gA ?_
    refine ⟨fun hc => ?_, fun hc => ?_⟩
    · replace hr := ifP hr hc
      repeat refine gA ?_
      obtain rfl := Option.some.inj hr
      (simp (maxDischargeDepth := 8) [go_sem, -List.drop_one])
    · replace hr := ifN hr hc
      repeat refine gA ?_
      refine ⟨fun hc => ?_, fun hc => ?_⟩
      · replace hr := ifP hr hc
        repeat refine gA ?_
        obtain rfl := Option.some.inj hr
        (simp (maxDischargeDepth := 8) [go_sem, -List.drop_one])
      · replace hr := ifN hr hc
        repeat refine gA ?_
        refine S.sees [1, 4] [(1, 1)] [] ?_ (Stop.iter S (fun s1 => ⟨[(1, .c (.ref 1 0)), (4, .c (.d (.int .i64 s1)))], [(1, [.d (.int .i64 a0_0), .d (encF 3 d_III a0_1)])], []⟩) (b29_1 a0_1) (fun q => q = r) hr rfl ?_)
        · (simp (maxDischargeDepth := 8) [go_sem, -List.drop_one])
        · intro s1 hr
          unfold b29_1 at hr
          refine S.goB [] 1000 ?_
          simp (maxSteps := 10000000) only [go_sem, tb29_33, T33, T29, Bool.not_true, Bool.not_false, Option.map_some, Int.reduceToNat, Nat.reduceEqDiff, Nat.reduceLT, Nat.reduceAdd, Nat.reduceMul, Nat.reduceSub, Nat.reduceLeDiff, reduceIte, reduceCtorEq, Try.results29]
          repeat refine gA ?_
          refine ⟨fun hc => ?_, fun hc => ?_⟩
          · replace hr := ifP1 hr hc
            obtain ⟨hg3, hr⟩ := of_guard1 hr
            obtain ⟨v2, hv2, hr⟩ := of_bind1 hr
            obtain ⟨hg4, hr⟩ := of_guard1 hr
            obtain ⟨hg5, hr⟩ := of_guard1 hr
            try simp only [hv2, Option.getD_some, Option.isSome_some, true_and, and_assoc]
            repeat (first | refine gG hg4 ?_ | refine gG hg5 ?_ | refine gA ?_ | refine gB ?_)
            refine ⟨fun hc => ?_, fun hc => ?_⟩
            · replace hr := ifP1 hr hc
              repeat refine gA ?_
              have hr := of_out0 hr
              obtain rfl := Option.some.inj hr
              (simp (maxDischargeDepth := 8) [go_sem, -List.drop_one])
            · replace hr := ifN1 hr hc
              repeat refine gA ?_
              refine ⟨fun hc => ?_, fun hc => ?_⟩
              · replace hr := ifP1 hr hc
                repeat refine gA ?_
                have hr := of_out0 hr
                obtain rfl := Option.some.inj hr
                (simp (maxDischargeDepth := 8) [go_sem, -List.drop_one])
              · replace hr := ifN1 hr hc
                repeat refine gA ?_
                refine S.sees [1, 4] [(1, 1)] [] ?_ hr
                (simp (maxDischargeDepth := 8) [go_sem, -List.drop_one])
          · replace hr := ifN1 hr hc
            repeat refine gA ?_
            have hr := of_out0 hr
            repeat refine gA ?_
            obtain rfl := Option.some.inj hr
            (simp (maxDischargeDepth := 8) [go_sem, -List.drop_one])
theorem f29 : FnFact Try.prog 29 T29.sp := ⟨⟨Try.f29, Try.func29, by decide, rfl⟩, v29⟩

/- martensite/martensiteref02.LadderErr -/
def r74 (a0_0 : Int) (a0_1 : List (Int × Int × Int)) : Option (Int) :=
  (r29 a0_0 a0_1).bind fun v1 =>
   some v1.2
def T74 : TSpec (Int × (List (Int × Int × Int))) where
  enc x := [.agg [.int .i64 x.1, encF 3 d_III x.2]]
  dec a := (dInt (aCell a 0 0), decF g_III (aCell a 0 1))
  pre x := (r74 x.1 x.2).isSome = true
  res x := [.c (.d (.int .i64 ((r74 x.1 x.2).getD default)))]
  al := false
def tb74 : Fns := lk [(29, T29.sp)]
theorem tb74_ok : FnsOk Try.prog tb74 := .cons f29 (FnsOk.nil)
theorem tb74_29 : tb74 29 = some T29.sp := rfl
theorem v74 : Valid Try.prog 74 T74.sp := by
  refine valid_t (fn := Try.f74) (n := 11) ty_ok tb74_ok Try.func74 rfl Try.ntmps74 ?_
  rintro ⟨a0_0, a0_1⟩ hx
  obtain ⟨r, hr⟩ := Option.isSome_iff_exists.1 (show (r74 a0_0 a0_1).isSome = true from hx)
  have hres : T74.res (a0_0, a0_1) = [.c (.d (.int .i64 r))] := by simp only [T74, hr, Option.getD_some]
  refine ⟨Nat.le_of_ble_eq_true rfl, fun stop S => ?_⟩
  rw [hres] at S
  unfold r74 at hr
  refine S.goB [] 1000 ?_
  simp (maxSteps := 10000000) only [go_sem, tb74_29, T29, T74, Bool.not_true, Bool.not_false, Option.map_some, Int.reduceToNat, Nat.reduceEqDiff, Nat.reduceLT, Nat.reduceAdd, Nat.reduceMul, Nat.reduceSub, Nat.reduceLeDiff, reduceIte, reduceCtorEq, Try.results74]
  obtain ⟨v1, hv1, hr⟩ := of_bind0 hr
  try simp only [hv1, Option.getD_some, Option.isSome_some, true_and, and_assoc]
  repeat refine gA ?_
  obtain rfl := Option.some.inj hr
  (simp (maxDischargeDepth := 8) [go_sem, -List.drop_one])
theorem f74 : FnFact Try.prog 74 T74.sp := ⟨⟨Try.f74, Try.func74, by decide, rfl⟩, v74⟩

/- martensite/martensiteref02.DriveErr -/
def r63 (a0_0 : Int) (a0_1 : List (Int × Int × Int)) (a1_0 : Int) (a1_1 : List (Bool)) : Option (Int) :=
  (r33 a1_0 1 8).bind fun v1 =>
   if (!v1) = true then
    some 2
    else if ((a1_1.length : Int) != (a0_1.length : Int)) = true then
     some 10
     else some 0
def T63 : TSpec (Int × (List (Int × Int × Int)) × Int × (List (Bool))) where
  enc x := [.agg [.int .i64 x.1, encF 3 d_III x.2.1], .agg [.int .i64 x.2.2.1, encF 1 d_B x.2.2.2]]
  dec a := (dInt (aCell a 0 0), decF g_III (aCell a 0 1), dInt (aCell a 1 0), decF g_B (aCell a 1 1))
  pre x := (r63 x.1 x.2.1 x.2.2.1 x.2.2.2).isSome = true
  res x := [.c (.d (.int .i64 ((r63 x.1 x.2.1 x.2.2.1 x.2.2.2).getD default)))]
  al := false
def tb63 : Fns := lk [(33, T33.sp)]
theorem tb63_ok : FnsOk Try.prog tb63 := .cons f33 (FnsOk.nil)
theorem tb63_33 : tb63 33 = some T33.sp := rfl
theorem v63 : Valid Try.prog 63 T63.sp := by
  refine valid_t (fn := Try.f63) (n := 16) ty_ok tb63_ok Try.func63 rfl Try.ntmps63 ?_
  rintro ⟨a0_0, a0_1, a1_0, a1_1⟩ hx
  obtain ⟨r, hr⟩ := Option.isSome_iff_exists.1 (show (r63 a0_0 a0_1 a1_0 a1_1).isSome = true from hx)
  have hres : T63.res (a0_0, a0_1, a1_0, a1_1) = [.c (.d (.int .i64 r))] := by simp only [T63, hr, Option.getD_some]
  refine ⟨Nat.le_of_ble_eq_true rfl, fun stop S => ?_⟩
  rw [hres] at S
  unfold r63 at hr
  refine S.goB [] 1000 ?_
  simp (maxSteps := 10000000) only [go_sem, tb63_33, T33, T63, Bool.not_true, Bool.not_false, Option.map_some, Int.reduceToNat, Nat.reduceEqDiff, Nat.reduceLT, Nat.reduceAdd, Nat.reduceMul, Nat.reduceSub, Nat.reduceLeDiff, reduceIte, reduceCtorEq, Try.results63]
  obtain ⟨v1, hv1, hr⟩ := of_bind0 hr
  try simp only [hv1, Option.getD_some, Option.isSome_some, true_and, and_assoc]
  repeat refine gA ?_
  refine ⟨fun hc => ?_, fun hc => ?_⟩
  · replace hr := ifP hr hc
    repeat refine gA ?_
    obtain rfl := Option.some.inj hr
    (simp (maxDischargeDepth := 8) [go_sem, -List.drop_one])
  · replace hr := ifN hr hc
    repeat refine gA ?_
    refine ⟨fun hc => ?_, fun hc => ?_⟩
    · replace hr := ifP hr hc
      repeat refine gA ?_
      obtain rfl := Option.some.inj hr
      (simp (maxDischargeDepth := 8) [go_sem, -List.drop_one])
    · replace hr := ifN hr hc
      repeat refine gA ?_
      obtain rfl := Option.some.inj hr
      (simp (maxDischargeDepth := 8) [go_sem, -List.drop_one])
theorem f63 : FnFact Try.prog 63 T63.sp := ⟨⟨Try.f63, Try.func63, by decide, rfl⟩, v63⟩

/- martensite/martensiteref02.BothErr -/
def r22 (a0_0 : Int) (a0_1 : List (Int × Int × Int)) (a1_0 : Int) (a1_1 : List (Bool)) : Option (Int) :=
  (r74 a0_0 a0_1).bind fun v1 =>
   if (v1 != 0) = true then
    some v1
    else (r63 a0_0 a0_1 a1_0 a1_1).bind fun v2 =>
     some v2
def T22 : TSpec (Int × (List (Int × Int × Int)) × Int × (List (Bool))) where
  enc x := [.agg [.int .i64 x.1, encF 3 d_III x.2.1], .agg [.int .i64 x.2.2.1, encF 1 d_B x.2.2.2]]
  dec a := (dInt (aCell a 0 0), decF g_III (aCell a 0 1), dInt (aCell a 1 0), decF g_B (aCell a 1 1))
  pre x := (r22 x.1 x.2.1 x.2.2.1 x.2.2.2).isSome = true
  res x := [.c (.d (.int .i64 ((r22 x.1 x.2.1 x.2.2.1 x.2.2.2).getD default)))]
  al := false
def tb22 : Fns := lk [(63, T63.sp), (74, T74.sp)]
theorem tb22_ok : FnsOk Try.prog tb22 := .cons f63 (.cons f74 (FnsOk.nil))
theorem tb22_63 : tb22 63 = some T63.sp := rfl
theorem tb22_74 : tb22 74 = some T74.sp := rfl
theorem v22 : Valid Try.prog 22 T22.sp := by
  refine valid_t (fn := Try.f22) (n := 14) ty_ok tb22_ok Try.func22 rfl Try.ntmps22 ?_
  rintro ⟨a0_0, a0_1, a1_0, a1_1⟩ hx
  obtain ⟨r, hr⟩ := Option.isSome_iff_exists.1 (show (r22 a0_0 a0_1 a1_0 a1_1).isSome = true from hx)
  have hres : T22.res (a0_0, a0_1, a1_0, a1_1) = [.c (.d (.int .i64 r))] := by simp only [T22, hr, Option.getD_some]
  refine ⟨Nat.le_of_ble_eq_true rfl, fun stop S => ?_⟩
  rw [hres] at S
  unfold r22 at hr
  refine S.goB [] 1000 ?_
  simp (maxSteps := 10000000) only [go_sem, tb22_63, T63, tb22_74, T74, T22, Bool.not_true, Bool.not_false, Option.map_some, Int.reduceToNat, Nat.reduceEqDiff, Nat.reduceLT, Nat.reduceAdd, Nat.reduceMul, Nat.reduceSub, Nat.reduceLeDiff, reduceIte, reduceCtorEq, Try.results22]
  obtain ⟨v1, hv1, hr⟩ := of_bind0 hr
  try simp only [hv1, Option.getD_some, Option.isSome_some, true_and, and_assoc]
  repeat refine gA ?_
  refine ⟨fun hc => ?_, fun hc => ?_⟩
  · replace hr := ifP hr hc
    repeat refine gA ?_
    obtain rfl := Option.some.inj hr
    (simp (maxDischargeDepth := 8) [go_sem, -List.drop_one])
  · replace hr := ifN hr hc
    obtain ⟨v2, hv2, hr⟩ := of_bind0 hr
    try simp only [hv2, Option.getD_some, Option.isSome_some, true_and, and_assoc]
    repeat refine gA ?_
    obtain rfl := Option.some.inj hr
    (simp (maxDischargeDepth := 8) [go_sem, -List.drop_one])
theorem f22 : FnFact Try.prog 22 T22.sp := ⟨⟨Try.f22, Try.func22, by decide, rfl⟩, v22⟩

/- martensite/martensiteref02.Reactances -/
def b31_1 (a0_1 : List (Int × Int × Int)) (a1_0 : Int) (a1_1 : List (Bool)) : ((List (Int)) × Int) → Ctl ((List (Int)) × Int) ((List (Int))) := fun s1 =>
  if (decide (s1.2 < (a0_1.length : Int))) = true then
   if 0 ≤ s1.2 ∧ s1.2 < (a0_1.length : Int) then
    if 0 ≤ s1.2 ∧ s1.2 < (a1_1.length : Int) then
     if (a1_1.getD s1.2.toNat default) = true then
      if 0 ≤ s1.2 ∧ s1.2 < (a0_1.length : Int) then
       if (s1.1.length + 1) * 8 ≤ 140737488355328 ∧ s1.1.length + 1 ≤ 9223372036854775807 then
        .next (s1.1 ++ [IntKind.i64.wrap (a1_0 * ((a0_1.getD s1.2.toNat default).2.2))], IntKind.i64.wrap (s1.2 + 1))
        else .out none
       else .out none
      else if (s1.1.length + 1) * 8 ≤ 140737488355328 ∧ s1.1.length + 1 ≤ 9223372036854775807 then
       .next (s1.1 ++ [IntKind.i64.wrap (a1_0 * ((a0_1.getD s1.2.toNat default).2.1))], IntKind.i64.wrap (s1.2 + 1))
       else .out none
     else .out none
    else .out none
   else .out (some s1.1)
def r31 (a0_0 : Int) (a0_1 : List (Int × Int × Int)) (a1_0 : Int) (a1_1 : List (Bool)) : Option ((List (Int))) :=
  iterC (b31_1 a0_1 a1_0 a1_1) 1000000000 ([], 0)
def T31 : TSpec (Int × (List (Int × Int × Int)) × Int × (List (Bool))) where
  enc x := [.agg [.int .i64 x.1, encF 3 d_III x.2.1], .agg [.int .i64 x.2.2.1, encF 1 d_B x.2.2.2]]
  dec a := (dInt (aCell a 0 0), decF g_III (aCell a 0 1), dInt (aCell a 1 0), decF g_B (aCell a 1 1))
  pre x := (r31 x.1 x.2.1 x.2.2.1 x.2.2.2).isSome = true
  res x := [.c (.own (encF 1 d_I ((r31 x.1 x.2.1 x.2.2.1 x.2.2.2).getD default)))]
  al := false
def tb31 : Fns := lk []
theorem tb31_ok : FnsOk Try.prog tb31 := FnsOk.nil
theorem v31 : Valid Try.prog 31 T31.sp := by
  refine valid_t (fn := Try.f31) (n := 40) ty_ok tb31_ok Try.func31 rfl Try.ntmps31 ?_
  rintro ⟨a0_0, a0_1, a1_0, a1_1⟩ hx
  obtain ⟨r, hr⟩ := Option.isSome_iff_exists.1 (show (r31 a0_0 a0_1 a1_0 a1_1).isSome = true from hx)
  have hres : T31.res (a0_0, a0_1, a1_0, a1_1) = [.c (.own (encF 1 d_I r))] := by simp only [T31, hr, Option.getD_some]
  refine ⟨Nat.le_of_ble_eq_true rfl, fun stop S => ?_⟩
  rw [hres] at S
  unfold r31 at hr
  refine S.goB [] 1000 ?_
  simp (maxSteps := 10000000) only [go_sem, T31, Bool.not_true, Bool.not_false, Option.map_some, Int.reduceToNat, Nat.reduceEqDiff, Nat.reduceLT, Nat.reduceAdd, Nat.reduceMul, Nat.reduceSub, Nat.reduceLeDiff, reduceIte, reduceCtorEq, Try.results31]
  repeat refine gA ?_
  refine S.own0 5 1000500 1 rfl rfl ?_
  refine S.sees [2, 3, 5, 6] [(2, 2), (3, 3)] [(1000500, 1000500)] ?_ (Stop.iter S (fun s1 => ⟨[(2, .c (.ref 2 0)), (3, .c (.ref 3 0)), (5, .c (.own 1000500)), (6, .c (.d (.int .i64 s1.2)))], [(2, [.d (.int .i64 a0_0), .d (encF 3 d_III a0_1)]), (3, [.d (.int .i64 a1_0), .d (encF 1 d_B a1_1)])], [(1000500, .owned (encF 1 d_I s1.1))]⟩) (b31_1 a0_1 a1_0 a1_1) (fun q => q = r) hr rfl ?_)
  · (simp (maxDischargeDepth := 8) [go_sem, -List.drop_one])
  · intro s1 hr
    unfold b31_1 at hr
    refine S.goB [] 1000 ?_
    simp (maxSteps := 10000000) only [go_sem, T31, Bool.not_true, Bool.not_false, Option.map_some, Int.reduceToNat, Nat.reduceEqDiff, Nat.reduceLT, Nat.reduceAdd, Nat.reduceMul, Nat.reduceSub, Nat.reduceLeDiff, reduceIte, reduceCtorEq, Try.results31]
    repeat refine gA ?_
    refine ⟨fun hc => ?_, fun hc => ?_⟩
    · replace hr := ifP1 hr hc
      obtain ⟨hg4, hr⟩ := of_guard1 hr
      obtain ⟨hg5, hr⟩ := of_guard1 hr
      repeat refine gA ?_
      refine ⟨fun hc => ?_, fun hc => ?_⟩
      · replace hr := ifP1 hr hc
        obtain ⟨hg1, hr⟩ := of_guard1 hr
        obtain ⟨hg2, hr⟩ := of_guard1 hr
        repeat refine gA ?_
        refine S.sees [2, 3, 5, 6] [(2, 2), (3, 3)] [(38, 1000500)] ?_ hr
        (simp (maxDischargeDepth := 8) [go_sem, -List.drop_one])
      · replace hr := ifN1 hr hc
        obtain ⟨hg3, hr⟩ := of_guard1 hr
        repeat refine gA ?_
        refine S.sees [2, 3, 5, 6] [(2, 2), (3, 3)] [(38, 1000500)] ?_ hr
        (simp (maxDischargeDepth := 8) [go_sem, -List.drop_one])
    · replace hr := ifN1 hr hc
      repeat refine gA ?_
      have hr := of_out0 hr
      repeat refine gA ?_
      obtain rfl := Option.some.inj hr
      (simp (maxDischargeDepth := 8) [go_sem, -List.drop_one])
theorem f31 : FnFact Try.prog 31 T31.sp := ⟨⟨Try.f31, Try.func31, by decide, rfl⟩, v31⟩

/- martensite/martensiteref02.scaled -/
def r93 (a0_0 : Int) (a0_1 : Int) (a1 : Int) : Option (Int × Int) :=
  some (IntKind.i64.wrap (a1 * a0_0), IntKind.i64.wrap (a1 * a0_1))
def T93 : TSpec (Int × Int × Int) where
  enc x := [.agg [.int .i64 x.1, .int .i64 x.2.1], .c (.int .i64 x.2.2)]
  dec a := (dInt (aCell a 0 0), dInt (aCell a 0 1), dInt (aCell a 1 0))
  pre x := (r93 x.1 x.2.1 x.2.2).isSome = true
  res x := [.agg [.d (.int .i64 (((r93 x.1 x.2.1 x.2.2).getD default).1)), .d (.int .i64 (((r93 x.1 x.2.1 x.2.2).getD default).2))]]
  al := false
def tb93 : Fns := lk []
theorem tb93_ok : FnsOk Try.prog tb93 := FnsOk.nil
theorem v93 : Valid Try.prog 93 T93.sp := by
  refine valid_t (fn := Try.f93) (n := 14) ty_ok tb93_ok Try.func93 rfl Try.ntmps93 ?_
  rintro ⟨a0_0, a0_1, a1⟩ hx
  obtain ⟨r, hr⟩ := Option.isSome_iff_exists.1 (show (r93 a0_0 a0_1 a1).isSome = true from hx)
  have hres : T93.res (a0_0, a0_1, a1) = [.agg [.d (.int .i64 r.1), .d (.int .i64 r.2)]] := by simp only [T93, hr, Option.getD_some]
  refine ⟨Nat.le_of_ble_eq_true rfl, fun stop S => ?_⟩
  rw [hres] at S
  unfold r93 at hr
  refine S.goB [] 1000 ?_
  simp (maxSteps := 10000000) only [go_sem, T93, Bool.not_true, Bool.not_false, Option.map_some, Int.reduceToNat, Nat.reduceEqDiff, Nat.reduceLT, Nat.reduceAdd, Nat.reduceMul, Nat.reduceSub, Nat.reduceLeDiff, reduceIte, reduceCtorEq, Try.results93]
  repeat refine gA ?_
  obtain rfl := Option.some.inj hr
  (simp (maxDischargeDepth := 8) [go_sem, -List.drop_one])
theorem f93 : FnFact Try.prog 93 T93.sp := ⟨⟨Try.f93, Try.func93, by decide, rfl⟩, v93⟩

/- martensite/martensitebase.GAdd -/
def r34 (a0_0 : Int) (a0_1 : Int) (a1_0 : Int) (a1_1 : Int) : Option (Int × Int) :=
  some (IntKind.i64.wrap (a0_0 + a1_0), IntKind.i64.wrap (a0_1 + a1_1))
def T34 : TSpec (Int × Int × Int × Int) where
  enc x := [.agg [.int .i64 x.1, .int .i64 x.2.1], .agg [.int .i64 x.2.2.1, .int .i64 x.2.2.2]]
  dec a := (dInt (aCell a 0 0), dInt (aCell a 0 1), dInt (aCell a 1 0), dInt (aCell a 1 1))
  pre x := (r34 x.1 x.2.1 x.2.2.1 x.2.2.2).isSome = true
  res x := [.agg [.d (.int .i64 (((r34 x.1 x.2.1 x.2.2.1 x.2.2.2).getD default).1)), .d (.int .i64 (((r34 x.1 x.2.1 x.2.2.1 x.2.2.2).getD default).2))]]
  al := false
def tb34 : Fns := lk []
theorem tb34_ok : FnsOk Try.prog tb34 := FnsOk.nil
theorem v34 : Valid Try.prog 34 T34.sp := by
  refine valid_t (fn := Try.f34) (n := 16) ty_ok tb34_ok Try.func34 rfl Try.ntmps34 ?_
  rintro ⟨a0_0, a0_1, a1_0, a1_1⟩ hx
  obtain ⟨r, hr⟩ := Option.isSome_iff_exists.1 (show (r34 a0_0 a0_1 a1_0 a1_1).isSome = true from hx)
  have hres : T34.res (a0_0, a0_1, a1_0, a1_1) = [.agg [.d (.int .i64 r.1), .d (.int .i64 r.2)]] := by simp only [T34, hr, Option.getD_some]
  refine ⟨Nat.le_of_ble_eq_true rfl, fun stop S => ?_⟩
  rw [hres] at S
  unfold r34 at hr
  refine S.goB [] 1000 ?_
  simp (maxSteps := 10000000) only [go_sem, T34, Bool.not_true, Bool.not_false, Option.map_some, Int.reduceToNat, Nat.reduceEqDiff, Nat.reduceLT, Nat.reduceAdd, Nat.reduceMul, Nat.reduceSub, Nat.reduceLeDiff, reduceIte, reduceCtorEq, Try.results34]
  repeat refine gA ?_
  obtain rfl := Option.some.inj hr
  (simp (maxDischargeDepth := 8) [go_sem, -List.drop_one])
theorem f34 : FnFact Try.prog 34 T34.sp := ⟨⟨Try.f34, Try.func34, by decide, rfl⟩, v34⟩

/- martensite/martensiteref02.turned -/
def r117 (a0_0 : Int) (a0_1 : Int) : Option (Int × Int) :=
  some (IntKind.i64.wrap (0 - a0_1), a0_0)
def T117 : TSpec (Int × Int) where
  enc x := [.agg [.int .i64 x.1, .int .i64 x.2]]
  dec a := (dInt (aCell a 0 0), dInt (aCell a 0 1))
  pre x := (r117 x.1 x.2).isSome = true
  res x := [.agg [.d (.int .i64 (((r117 x.1 x.2).getD default).1)), .d (.int .i64 (((r117 x.1 x.2).getD default).2))]]
  al := false
def tb117 : Fns := lk []
theorem tb117_ok : FnsOk Try.prog tb117 := FnsOk.nil
theorem v117 : Valid Try.prog 117 T117.sp := by
  refine valid_t (fn := Try.f117) (n := 9) ty_ok tb117_ok Try.func117 rfl Try.ntmps117 ?_
  rintro ⟨a0_0, a0_1⟩ hx
  obtain ⟨r, hr⟩ := Option.isSome_iff_exists.1 (show (r117 a0_0 a0_1).isSome = true from hx)
  have hres : T117.res (a0_0, a0_1) = [.agg [.d (.int .i64 r.1), .d (.int .i64 r.2)]] := by simp only [T117, hr, Option.getD_some]
  refine ⟨Nat.le_of_ble_eq_true rfl, fun stop S => ?_⟩
  rw [hres] at S
  unfold r117 at hr
  refine S.goB [] 1000 ?_
  simp (maxSteps := 10000000) only [go_sem, T117, Bool.not_true, Bool.not_false, Option.map_some, Int.reduceToNat, Nat.reduceEqDiff, Nat.reduceLT, Nat.reduceAdd, Nat.reduceMul, Nat.reduceSub, Nat.reduceLeDiff, reduceIte, reduceCtorEq, Try.results117]
  repeat refine gA ?_
  obtain rfl := Option.some.inj hr
  (simp (maxDischargeDepth := 8) [go_sem, -List.drop_one])
theorem f117 : FnFact Try.prog 117 T117.sp := ⟨⟨Try.f117, Try.func117, by decide, rfl⟩, v117⟩

/- martensite/martensiteref02.Solve -/
def b56_1 (a0_1 : List (Int × Int × Int)) (v1 : (List (Int))) : (Int × Int × Int × (List (Int × Int)) × (List (Int × Int))) → Ctl (Int × Int × Int × (List (Int × Int)) × (List (Int × Int))) ((List (Int × Int)) × (List (Int × Int))) := fun s1 =>
  if (decide (s1.1 ≥ 0)) = true then
   if 0 ≤ IntKind.i64.wrap (s1.1 + 1) ∧ IntKind.i64.wrap (s1.1 + 1) < (s1.2.2.2.1.length : Int) then
    if 0 ≤ s1.1 ∧ s1.1 < (a0_1.length : Int) then
     bindC (r93 ((s1.2.2.2.1.getD (IntKind.i64.wrap (s1.1 + 1)).toNat default).1) ((s1.2.2.2.1.getD (IntKind.i64.wrap (s1.1 + 1)).toNat default).2) ((a0_1.getD s1.1.toNat default).1)) fun v2 =>
      bindC (r34 s1.2.1 s1.2.2.1 v2.1 v2.2) fun v3 =>
       if 0 ≤ s1.1 ∧ s1.1 < (s1.2.2.2.2.length : Int) then
        if 0 ≤ IntKind.i64.wrap (s1.1 + 1) ∧ IntKind.i64.wrap (s1.1 + 1) < (s1.2.2.2.1.length : Int) then
         bindC (r117 v3.1 v3.2) fun v4 =>
          if 0 ≤ s1.1 ∧ s1.1 < (v1.length : Int) then
           bindC (r93 v4.1 v4.2 (v1.getD s1.1.toNat default)) fun v5 =>
            bindC (r34 ((s1.2.2.2.1.getD (IntKind.i64.wrap (s1.1 + 1)).toNat default).1) ((s1.2.2.2.1.getD (IntKind.i64.wrap (s1.1 + 1)).toNat default).2) v5.1 v5.2) fun v6 =>
             if 0 ≤ s1.1 ∧ s1.1 < (s1.2.2.2.1.length : Int) then
              .next (IntKind.i64.wrap (s1.1 - 1), v3.1, v3.2, s1.2.2.2.1.set s1.1.toNat (v6.1, v6.2), s1.2.2.2.2.set s1.1.toNat (v3.1, v3.2))
              else .out none
           else .out none
         else .out none
        else .out none
     else .out none
    else .out none
   else .out (some (s1.2.2.2.1, s1.2.2.2.2))
def r56 (a0_0 : Int) (a0_1 : List (Int × Int × Int)) (a1_0 : Int) (a1_1 : List (Bool)) : Option ((List (Int × Int)) × (List (Int × Int))) :=
  (r31 a0_0 a0_1 a1_0 a1_1).bind fun v1 =>
   if 0 ≤ IntKind.i64.wrap ((a0_1.length : Int) + 1) ∧ IntKind.i64.wrap ((a0_1.length : Int) + 1) ≤ IntKind.i64.wrap ((a0_1.length : Int) + 1) ∧ IntKind.i64.wrap ((a0_1.length : Int) + 1) ≤ 9223372036854775807 ∧ 16 * (IntKind.i64.wrap ((a0_1.length : Int) + 1)) ≤ 281474976710656 then
    if 0 ≤ (a0_1.length : Int) ∧ (a0_1.length : Int) ≤ (a0_1.length : Int) ∧ (a0_1.length : Int) ≤ 9223372036854775807 ∧ 16 * (a0_1.length : Int) ≤ 281474976710656 then
     if 0 ≤ (a0_1.length : Int) ∧ (a0_1.length : Int) < ((IntKind.i64.wrap ((a0_1.length : Int) + 1)).toNat : Int) then
      iterC (b56_1 a0_1 v1) 1000000000 (IntKind.i64.wrap ((a0_1.length : Int) - 1), 0, 0, (List.replicate (IntKind.i64.wrap ((a0_1.length : Int) + 1)).toNat (0, 0)).set a0_1.length (1, 0), List.replicate (a0_1.length : Int).toNat (0, 0))
      else none
     else none
    else none
def T56 : TSpec (Int × (List (Int × Int × Int)) × Int × (List (Bool))) where
  enc x := [.agg [.int .i64 x.1, encF 3 d_III x.2.1], .agg [.int .i64 x.2.2.1, encF 1 d_B x.2.2.2]]
  dec a := (dInt (aCell a 0 0), decF g_III (aCell a 0 1), dInt (aCell a 1 0), decF g_B (aCell a 1 1))
  pre x := (r56 x.1 x.2.1 x.2.2.1 x.2.2.2).isSome = true
  res x := [.c (.own (encF 2 d_II (((r56 x.1 x.2.1 x.2.2.1 x.2.2.2).getD default).1))), .c (.own (encF 2 d_II (((r56 x.1 x.2.1 x.2.2.1 x.2.2.2).getD default).2)))]
  al := false
def tb56 : Fns := lk [(31, T31.sp), (34, T34.sp), (93, T93.sp), (117, T117.sp)]
theorem tb56_ok : FnsOk Try.prog tb56 := .cons f31 (.cons f34 (.cons f93 (.cons f117 (FnsOk.nil))))
theorem tb56_31 : tb56 31 = some T31.sp := rfl
theorem tb56_34 : tb56 34 = some T34.sp := rfl
theorem tb56_93 : tb56 93 = some T93.sp := rfl
theorem tb56_117 : tb56 117 = some T117.sp := rfl
theorem v56 : Valid Try.prog 56 T56.sp := by
  refine valid_t (fn := Try.f56) (n := 69) ty_ok tb56_ok Try.func56 rfl Try.ntmps56 ?_
  rintro ⟨a0_0, a0_1, a1_0, a1_1⟩ hx
  obtain ⟨r, hr⟩ := Option.isSome_iff_exists.1 (show (r56 a0_0 a0_1 a1_0 a1_1).isSome = true from hx)
  have hres : T56.res (a0_0, a0_1, a1_0, a1_1) = [.c (.own (encF 2 d_II r.1)), .c (.own (encF 2 d_II r.2))] := by simp only [T56, hr, Option.getD_some]
  refine ⟨Nat.le_of_ble_eq_true rfl, fun stop S => ?_⟩
  rw [hres] at S
  unfold r56 at hr
  refine S.goB [] 1000 ?_
  simp (maxSteps := 10000000) only [go_sem, tb56_31, T31, tb56_34, T34, tb56_93, T93, tb56_117, T117, T56, Bool.not_true, Bool.not_false, Option.map_some, Int.reduceToNat, Nat.reduceEqDiff, Nat.reduceLT, Nat.reduceAdd, Nat.reduceMul, Nat.reduceSub, Nat.reduceLeDiff, reduceIte, reduceCtorEq, Try.results56]
  obtain ⟨v1, hv1, hr⟩ := of_bind0 hr
  obtain ⟨hg13, hr⟩ := of_guard0 hr
  obtain ⟨hg14, hr⟩ := of_guard0 hr
  obtain ⟨hg15, hr⟩ := of_guard0 hr
  try simp only [hv1, Option.getD_some, Option.isSome_some, true_and, and_assoc]
  repeat refine gA ?_
  refine S.sees [2, 7, 8, 9, 10, 11] [(2, 2), (10, 10)] [(17, 17), (20, 20), (22, 22)] ?_ (Stop.iter S (fun s1 => ⟨[(2, .c (.ref 2 0)), (7, .c (.own 17)), (8, .c (.own 20)), (9, .c (.own 22)), (10, .c (.ref 10 0)), (11, .c (.d (.int .i64 s1.1)))], [(2, [.d (.int .i64 a0_0), .d (encF 3 d_III a0_1)]), (10, [.d (.int .i64 s1.2.1), .d (.int .i64 s1.2.2.1)])], [(17, .owned (encF 1 d_I v1)), (20, .owned (encF 2 d_II s1.2.2.2.1)), (22, .owned (encF 2 d_II s1.2.2.2.2))]⟩) (b56_1 a0_1 v1) (fun q => q = r) hr rfl ?_)
  · (simp (maxDischargeDepth := 8) [go_sem, -List.drop_one])
  · intro s1 hr
    unfold b56_1 at hr
    refine S.goB [] 1000 ?_
    simp (maxSteps := 10000000) only [go_sem, tb56_31, T31, tb56_34, T34, tb56_93, T93, tb56_117, T117, T56, Bool.not_true, Bool.not_false, Option.map_some, Int.reduceToNat, Nat.reduceEqDiff, Nat.reduceLT, Nat.reduceAdd, Nat.reduceMul, Nat.reduceSub, Nat.reduceLeDiff, reduceIte, reduceCtorEq, Try.results56]
    repeat refine gA ?_
    refine ⟨fun hc => ?_, fun hc => ?_⟩
    · replace hr := ifP1 hr hc
      obtain ⟨hg7, hr⟩ := of_guard1 hr
      obtain ⟨hg8, hr⟩ := of_guard1 hr
      obtain ⟨v2, hv2, hr⟩ := of_bind1 hr
      obtain ⟨v3, hv3, hr⟩ := of_bind1 hr
      obtain ⟨hg9, hr⟩ := of_guard1 hr
      obtain ⟨hg10, hr⟩ := of_guard1 hr
      obtain ⟨v4, hv4, hr⟩ := of_bind1 hr
      obtain ⟨hg11, hr⟩ := of_guard1 hr
      obtain ⟨v5, hv5, hr⟩ := of_bind1 hr
      obtain ⟨v6, hv6, hr⟩ := of_bind1 hr
      obtain ⟨hg12, hr⟩ := of_guard1 hr
      try simp only [hv2, hv3, hv4, hv5, hv6, Option.getD_some, Option.isSome_some, true_and, and_assoc]
      repeat refine gA ?_
      refine S.sees [2, 7, 8, 9, 10, 11] [(2, 2), (10, 10)] [(17, 17), (20, 20), (22, 22)] ?_ hr
      (simp (maxDischargeDepth := 8) [go_sem, -List.drop_one])
    · replace hr := ifN1 hr hc
      repeat refine gA ?_
      have hr := of_out0 hr
      repeat refine gA ?_
      obtain rfl := Option.some.inj hr
      (simp (maxDischargeDepth := 8) [go_sem, -List.drop_one])
theorem f56 : FnFact Try.prog 56 T56.sp := ⟨⟨Try.f56, Try.func56, by decide, rfl⟩, v56⟩

/- martensite/martensitebase.Size -/
def r131 (a0 : Int) : Option (Int) :=
  some (if a0 < IntKind.i64.wrap (0 - a0) then IntKind.i64.wrap (0 - a0) else a0)
def T131 : TSpec (Int) where
  enc x := [.c (.int .i64 x)]
  dec a := dInt (aCell a 0 0)
  pre x := (r131 x).isSome = true
  res x := [.c (.d (.int .i64 ((r131 x).getD default)))]
  al := false
def tb131 : Fns := lk []
theorem tb131_ok : FnsOk Try.prog tb131 := FnsOk.nil
theorem v131 : Valid Try.prog 131 T131.sp := by
  refine valid_t (fn := Try.f131) (n := 7) ty_ok tb131_ok Try.func131 rfl Try.ntmps131 ?_
  rintro a0 hx
  obtain ⟨r, hr⟩ := Option.isSome_iff_exists.1 (show (r131 a0).isSome = true from hx)
  have hres : T131.res a0 = [.c (.d (.int .i64 r))] := by simp only [T131, hr, Option.getD_some]
  refine ⟨Nat.le_of_ble_eq_true rfl, fun stop S => ?_⟩
  rw [hres] at S
  unfold r131 at hr
  refine S.goB [] 1000 ?_
  simp (maxSteps := 10000000) only [go_sem, T131, Bool.not_true, Bool.not_false, Option.map_some, Int.reduceToNat, Nat.reduceEqDiff, Nat.reduceLT, Nat.reduceAdd, Nat.reduceMul, Nat.reduceSub, Nat.reduceLeDiff, reduceIte, reduceCtorEq, Try.results131]
  repeat refine gA ?_
  obtain rfl := Option.some.inj hr
  (simp (maxDischargeDepth := 8) [go_sem, -List.drop_one])
theorem f131 : FnFact Try.prog 131 T131.sp := ⟨⟨Try.f131, Try.func131, by decide, rfl⟩, v131⟩
end Go.Proofs.Ytagnplbfdaifkaa

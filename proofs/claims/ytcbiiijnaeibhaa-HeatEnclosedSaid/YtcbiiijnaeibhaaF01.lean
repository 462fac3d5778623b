/- Contracts of functions, written by wip/dec. -/
import Derived.Test.YtcbiiijnaeibhaaF00
set_option linter.unusedVariables false
set_option linter.unusedSimpArgs false
set_option maxHeartbeats 4000000
set_option maxRecDepth 20000
namespace Go.Proofs.Ytcbiiijnaeibhaa
open Go.Abs
/- martensite/martensitelaw03.Setup -/
def r87 : Option (Int × Int × (List (Int × Int)) × (List ((List (Int × Int))))) :=
  some (3, 500, [(0, 300), (1000, 800), (3000, 1300)], [[(300, 0)], [(300, 0), (1300, 400)]])
def T87 : TSpec (Unit) where
  enc x := []
  dec a := ()
  pre x := (r87).isSome = true
  res x := [.agg [.d (.int .i64 (((r87).getD default).1)), .d (.int .i64 (((r87).getD default).2.1)), .own (encF 2 d_II (((r87).getD default).2.2.1)), .own (encF 1 d_LIIE (((r87).getD default).2.2.2))]]
  al := true
def tb87 : Fns := lk []
theorem tb87_ok : FnsOk Try.prog tb87 := FnsOk.nil
theorem v87 : Valid Try.prog 87 T87.sp := by
  refine valid_t (fn := Try.f87) (n := 12) ty_ok tb87_ok Try.func87 rfl Try.ntmps87 ?_
  intro _ hx
  obtain ⟨r, hr⟩ := Option.isSome_iff_exists.1 (show (r87).isSome = true from hx)
  have hres : T87.res () = [.agg [.d (.int .i64 r.1), .d (.int .i64 r.2.1), .own (encF 2 d_II r.2.2.1), .own (encF 1 d_LIIE r.2.2.2)]] := by simp only [T87, hr, Option.getD_some]
  refine ⟨Nat.le_of_ble_eq_true rfl, fun stop S => ?_⟩
  rw [hres] at S
  unfold r87 at hr
  refine S.goB [] 1000 ?_
  simp (maxSteps := 10000000) only [go_sem, T87, Option.map_some, Int.reduceToNat, Nat.reduceEqDiff, Nat.reduceLT, Nat.reduceAdd, Nat.reduceMul, Nat.reduceSub, Nat.reduceLeDiff, reduceIte, reduceCtorEq, Try.results87]
  repeat refine gA ?_
  obtain rfl := Option.some.inj hr
  (simp (maxDischargeDepth := 8) [go_sem])
theorem f87 : FnFact Try.prog 87 T87.sp := ⟨⟨Try.f87, Try.func87, by decide, rfl⟩, v87⟩

/- martensite/heat.within -/
def r90 (a0 : Int) (a1 : Int) (a2 : Int) : Option (Bool) :=
  some ((decide (a1 ≤ a0)) && (decide (a0 ≤ a2)))
def T90 : TSpec (Int × Int × Int) where
  enc x := [.c (.int .i64 x.1), .c (.int .i64 x.2.1), .c (.int .i64 x.2.2)]
  dec a := (dInt (aCell a 0 0), dInt (aCell a 1 0), dInt (aCell a 2 0))
  pre x := (r90 x.1 x.2.1 x.2.2).isSome = true
  res x := [.c (.d (.bool ((r90 x.1 x.2.1 x.2.2).getD default)))]
  al := false
def tb90 : Fns := lk []
theorem tb90_ok : FnsOk Try.prog tb90 := FnsOk.nil
theorem v90 : Valid Try.prog 90 T90.sp := by
  refine valid_t (fn := Try.f90) (n := 15) ty_ok tb90_ok Try.func90 rfl Try.ntmps90 ?_
  rintro ⟨a0, a1, a2⟩ hx
  obtain ⟨r, hr⟩ := Option.isSome_iff_exists.1 (show (r90 a0 a1 a2).isSome = true from hx)
  have hres : T90.res (a0, a1, a2) = [.c (.d (.bool r))] := by simp only [T90, hr, Option.getD_some]
  refine ⟨Nat.le_of_ble_eq_true rfl, fun stop S => ?_⟩
  rw [hres] at S
  unfold r90 at hr
  refine S.goB [] 1000 ?_
  simp (maxSteps := 10000000) only [go_sem, T90, Option.map_some, Int.reduceToNat, Nat.reduceEqDiff, Nat.reduceLT, Nat.reduceAdd, Nat.reduceMul, Nat.reduceSub, Nat.reduceLeDiff, reduceIte, reduceCtorEq, Try.results90]
  repeat (first | refine gA ?_ | refine gB ?_)
  obtain rfl := Option.some.inj hr
  (simp (maxDischargeDepth := 8) [go_sem])
theorem f90 : FnFact Try.prog 90 T90.sp := ⟨⟨Try.f90, Try.func90, by decide, rfl⟩, v90⟩

/- martensite/heat.unless -/
def r94 (a0 : Bool) (a1 : Int) : Option (Int) :=
  if a0 = true then
   some 0
   else some a1
def T94 : TSpec (Bool × Int) where
  enc x := [.c (.bool x.1), .c (.int .i64 x.2)]
  dec a := (dBool (aCell a 0 0), dInt (aCell a 1 0))
  pre x := (r94 x.1 x.2).isSome = true
  res x := [.c (.d (.int .i64 ((r94 x.1 x.2).getD default)))]
  al := false
def tb94 : Fns := lk []
theorem tb94_ok : FnsOk Try.prog tb94 := FnsOk.nil
theorem v94 : Valid Try.prog 94 T94.sp := by
  refine valid_t (fn := Try.f94) (n := 7) ty_ok tb94_ok Try.func94 rfl Try.ntmps94 ?_
  rintro ⟨a0, a1⟩ hx
  obtain ⟨r, hr⟩ := Option.isSome_iff_exists.1 (show (r94 a0 a1).isSome = true from hx)
  have hres : T94.res (a0, a1) = [.c (.d (.int .i64 r))] := by simp only [T94, hr, Option.getD_some]
  refine ⟨Nat.le_of_ble_eq_true rfl, fun stop S => ?_⟩
  rw [hres] at S
  unfold r94 at hr
  refine S.goB [] 1000 ?_
  simp (maxSteps := 10000000) only [go_sem, T94, Option.map_some, Int.reduceToNat, Nat.reduceEqDiff, Nat.reduceLT, Nat.reduceAdd, Nat.reduceMul, Nat.reduceSub, Nat.reduceLeDiff, reduceIte, reduceCtorEq, Try.results94]
  repeat refine gA ?_
  refine ⟨fun hc => ?_, fun hc => ?_⟩
  · replace hr := ifP hr hc
    repeat refine gA ?_
    obtain rfl := Option.some.inj hr
    (simp (maxDischargeDepth := 8) [go_sem])
  · replace hr := ifN hr hc
    repeat refine gA ?_
    obtain rfl := Option.some.inj hr
    (simp (maxDischargeDepth := 8) [go_sem])
theorem f94 : FnFact Try.prog 94 T94.sp := ⟨⟨Try.f94, Try.func94, by decide, rfl⟩, v94⟩

/- martensite/heat.first -/
def b91_1 (a0 : List (Int)) : (Int) → Ctl (Int) (Int) := fun s1 =>
  if (decide (s1 < (a0.length : Int))) = true then
   if 0 ≤ s1 ∧ s1 < (a0.length : Int) then
    if ((a0.getD s1.toNat default) != 0) = true then
     .out (some (a0.getD s1.toNat default))
     else .next (IntKind.i64.wrap (s1 + 1))
    else .out none
   else .out (some 0)
def r91 (a0 : List (Int)) : Option (Int) :=
  iterC (b91_1 a0) 1000000000 0
def T91 : TSpec ((List (Int))) where
  enc x := [.c (encF 1 d_I x)]
  dec a := decF g_I (aCell a 0 0)
  pre x := (r91 x).isSome = true
  res x := [.c (.d (.int .i64 ((r91 x).getD default)))]
  al := false
def tb91 : Fns := lk []
theorem tb91_ok : FnsOk Try.prog tb91 := FnsOk.nil
theorem v91 : Valid Try.prog 91 T91.sp := by
  refine valid_t (fn := Try.f91) (n := 15) ty_ok tb91_ok Try.func91 rfl Try.ntmps91 ?_
  rintro a0 hx
  obtain ⟨r, hr⟩ := Option.isSome_iff_exists.1 (show (r91 a0).isSome = true from hx)
  have hres : T91.res a0 = [.c (.d (.int .i64 r))] := by simp only [T91, hr, Option.getD_some]
  refine ⟨Nat.le_of_ble_eq_true rfl, fun stop S => ?_⟩
  rw [hres] at S
  unfold r91 at hr
  refine S.goB [] 1000 ?_
  simp (maxSteps := 10000000) only [go_sem, T91, Option.map_some, Int.reduceToNat, Nat.reduceEqDiff, Nat.reduceLT, Nat.reduceAdd, Nat.reduceMul, Nat.reduceSub, Nat.reduceLeDiff, reduceIte, reduceCtorEq, Try.results91]
  repeat refine gA ?_
  refine S.sees [5, 6, 7] [] [] ?_ (Stop.iter S (fun s1 => ⟨[(5, .c (.d (encF 1 d_I a0))), (6, .c (.d (.int .i64 (a0.length : Int)))), (7, .c (.d (.int .i64 s1)))], [], []⟩) (b91_1 a0) (fun q => q = r) hr rfl ?_)
  · (simp (maxDischargeDepth := 8) [go_sem])
  · intro s1 hr
    unfold b91_1 at hr
    refine S.goB [] 1000 ?_
    simp (maxSteps := 10000000) only [go_sem, T91, Option.map_some, Int.reduceToNat, Nat.reduceEqDiff, Nat.reduceLT, Nat.reduceAdd, Nat.reduceMul, Nat.reduceSub, Nat.reduceLeDiff, reduceIte, reduceCtorEq, Try.results91]
    repeat refine gA ?_
    refine ⟨fun hc => ?_, fun hc => ?_⟩
    · replace hr := ifP1 hr hc
      obtain ⟨hg1, hr⟩ := of_guard1 hr
      repeat refine gA ?_
      refine ⟨fun hc => ?_, fun hc => ?_⟩
      · replace hr := ifP1 hr hc
        repeat refine gA ?_
        have hr := of_out0 hr
        obtain rfl := Option.some.inj hr
        (simp (maxDischargeDepth := 8) [go_sem])
      · replace hr := ifN1 hr hc
        repeat refine gA ?_
        refine S.sees [5, 6, 7] [] [] ?_ hr
        (simp (maxDischargeDepth := 8) [go_sem])
    · replace hr := ifN1 hr hc
      repeat refine gA ?_
      have hr := of_out0 hr
      repeat refine gA ?_
      obtain rfl := Option.some.inj hr
      (simp (maxDischargeDepth := 8) [go_sem])
theorem f91 : FnFact Try.prog 91 T91.sp := ⟨⟨Try.f91, Try.func91, by decide, rfl⟩, v91⟩

/- martensite/heat.isKelvin -/
def r140 (a0 : Int) : Option (Bool) :=
  (r90 a0 200 3000).bind fun v1 =>
   some v1
def T140 : TSpec (Int) where
  enc x := [.c (.int .i64 x)]
  dec a := dInt (aCell a 0 0)
  pre x := (r140 x).isSome = true
  res x := [.c (.d (.bool ((r140 x).getD default)))]
  al := false
def tb140 : Fns := lk [(90, T90.sp)]
theorem tb140_ok : FnsOk Try.prog tb140 := .cons f90 (FnsOk.nil)
theorem tb140_90 : tb140 90 = some T90.sp := rfl
theorem v140 : Valid Try.prog 140 T140.sp := by
  refine valid_t (fn := Try.f140) (n := 5) ty_ok tb140_ok Try.func140 rfl Try.ntmps140 ?_
  rintro a0 hx
  obtain ⟨r, hr⟩ := Option.isSome_iff_exists.1 (show (r140 a0).isSome = true from hx)
  have hres : T140.res a0 = [.c (.d (.bool r))] := by simp only [T140, hr, Option.getD_some]
  refine ⟨Nat.le_of_ble_eq_true rfl, fun stop S => ?_⟩
  rw [hres] at S
  unfold r140 at hr
  refine S.goB [] 1000 ?_
  simp (maxSteps := 10000000) only [go_sem, tb140_90, T90, T140, Option.map_some, Int.reduceToNat, Nat.reduceEqDiff, Nat.reduceLT, Nat.reduceAdd, Nat.reduceMul, Nat.reduceSub, Nat.reduceLeDiff, reduceIte, reduceCtorEq, Try.results140]
  obtain ⟨v1, hv1, hr⟩ := of_bind0 hr
  try simp only [hv1, Option.getD_some, Option.isSome_some, true_and, and_assoc]
  repeat refine gA ?_
  obtain rfl := Option.some.inj hr
  (simp (maxDischargeDepth := 8) [go_sem])
theorem f140 : FnFact Try.prog 140 T140.sp := ⟨⟨Try.f140, Try.func140, by decide, rfl⟩, v140⟩

/- martensite/heat.knotsErr -/
def b99_1 (a0 : List (Int × Int)) : (Int) → Ctl (Int) (Int × Int) := fun s1 =>
  if (decide (s1 < (a0.length : Int))) = true then
   if 0 ≤ s1 ∧ s1 < (a0.length : Int) then
    bindC (r90 ((a0.getD s1.toNat default).1) 0 1000000) fun v4 =>
     if v4 = true → (r140 ((a0.getD s1.toNat default).2)).isSome = true then
      bindC (r94 (v4 && ((r140 ((a0.getD s1.toNat default).2)).getD default)) 2) fun v5 =>
       if ((v5 == 0) && (decide (s1 > 0))) = true then
        if 0 ≤ IntKind.i64.wrap (s1 - 1) ∧ IntKind.i64.wrap (s1 - 1) < (a0.length : Int) then
         if 0 ≤ IntKind.i64.wrap (s1 - 1) ∧ IntKind.i64.wrap (s1 - 1) < (a0.length : Int) then
          bindC (r94 ((decide ((IntKind.i64.wrap (((a0.getD s1.toNat default).1) - ((a0.getD (IntKind.i64.wrap (s1 - 1)).toNat default).1))) > 0)) && (decide ((IntKind.i64.wrap (((a0.getD s1.toNat default).2) - ((a0.getD (IntKind.i64.wrap (s1 - 1)).toNat default).2))) > 0))) 9) fun v6 =>
           bindC (r94 (decide ((IntKind.i64.wrap (((a0.getD s1.toNat default).2) - ((a0.getD (IntKind.i64.wrap (s1 - 1)).toNat default).2))) ≤ (IntKind.i64.wrap (((a0.getD s1.toNat default).1) - ((a0.getD (IntKind.i64.wrap (s1 - 1)).toNat default).1))))) 22) fun v7 =>
            bindC (r91 [v6, v7]) fun v8 =>
             if (v8 != 0) = true then
              .out (some (s1, v8))
              else .next (IntKind.i64.wrap (s1 + 1))
          else .out none
         else .out none
        else if (v5 != 0) = true then
         .out (some (s1, v5))
         else .next (IntKind.i64.wrap (s1 + 1))
      else .out none
    else .out none
   else .out (some (0, 0))
def r99 (a0 : List (Int × Int)) : Option (Int × Int) :=
  (r94 (decide ((a0.length : Int) ≥ 2)) 10).bind fun v1 =>
   (r94 (decide ((a0.length : Int) ≤ 8)) 8).bind fun v2 =>
    (r91 [v1, v2]).bind fun v3 =>
     if (v3 != 0) = true then
      some (0, v3)
      else iterC (b99_1 a0) 1000000000 0
def T99 : TSpec ((List (Int × Int))) where
  enc x := [.c (encF 2 d_II x)]
  dec a := decF g_II (aCell a 0 0)
  pre x := (r99 x).isSome = true
  res x := [.c (.d (.int .i64 (((r99 x).getD default).1))), .c (.d (.int .i64 (((r99 x).getD default).2)))]
  al := false
def tb99 : Fns := lk [(90, T90.sp), (91, T91.sp), (94, T94.sp), (140, T140.sp)]
theorem tb99_ok : FnsOk Try.prog tb99 := .cons f90 (.cons f91 (.cons f94 (.cons f140 (FnsOk.nil))))
theorem tb99_90 : tb99 90 = some T90.sp := rfl
theorem tb99_91 : tb99 91 = some T91.sp := rfl
theorem tb99_94 : tb99 94 = some T94.sp := rfl
theorem tb99_140 : tb99 140 = some T140.sp := rfl
theorem v99 : Valid Try.prog 99 T99.sp := by
  refine valid_t (fn := Try.f99) (n := 81) ty_ok tb99_ok Try.func99 rfl Try.ntmps99 ?_
  rintro a0 hx
  obtain ⟨r, hr⟩ := Option.isSome_iff_exists.1 (show (r99 a0).isSome = true from hx)
  have hres : T99.res a0 = [.c (.d (.int .i64 r.1)), .c (.d (.int .i64 r.2))] := by simp only [T99, hr, Option.getD_some]
  refine ⟨Nat.le_of_ble_eq_true rfl, fun stop S => ?_⟩
  rw [hres] at S
  unfold r99 at hr
  refine S.goB [] 1000 ?_
  simp (maxSteps := 10000000) only [go_sem, tb99_90, T90, tb99_91, T91, tb99_94, T94, tb99_140, T140, T99, Option.map_some, Int.reduceToNat, Nat.reduceEqDiff, Nat.reduceLT, Nat.reduceAdd, Nat.reduceMul, Nat.reduceSub, Nat.reduceLeDiff, reduceIte, reduceCtorEq, Try.results99]
  obtain ⟨v1, hv1, hr⟩ := of_bind0 hr
  obtain ⟨v2, hv2, hr⟩ := of_bind0 hr
  obtain ⟨v3, hv3, hr⟩ := of_bind0 hr
  try simp only [hv1, hv2, hv3, Option.getD_some, Option.isSome_some, true_and, and_assoc]
  repeat refine gA ?_
  refine ⟨fun hc => ?_, fun hc => ?_⟩
  · replace hr := ifP hr hc
    repeat refine gA ?_
    obtain rfl := Option.some.inj hr
    (simp (maxDischargeDepth := 8) [go_sem])
  · replace hr := ifN hr hc
    repeat refine gA ?_
    refine S.sees [0, 23, 24, 25] [] [] ?_ (Stop.iter S (fun s1 => ⟨[(0, .c (.d (encF 2 d_II a0))), (23, .c (.d (encF 2 d_II a0))), (24, .c (.d (.int .i64 (a0.length : Int)))), (25, .c (.d (.int .i64 s1)))], [], []⟩) (b99_1 a0) (fun q => q = r) hr rfl ?_)
    · (simp (maxDischargeDepth := 8) [go_sem])
    · intro s1 hr
      unfold b99_1 at hr
      refine S.goB [] 1000 ?_
      simp (maxSteps := 10000000) only [go_sem, tb99_90, T90, tb99_91, T91, tb99_94, T94, tb99_140, T140, T99, Option.map_some, Int.reduceToNat, Nat.reduceEqDiff, Nat.reduceLT, Nat.reduceAdd, Nat.reduceMul, Nat.reduceSub, Nat.reduceLeDiff, reduceIte, reduceCtorEq, Try.results99]
      repeat refine gA ?_
      refine ⟨fun hc => ?_, fun hc => ?_⟩
      · replace hr := ifP1 hr hc
        obtain ⟨hg11, hr⟩ := of_guard1 hr
        obtain ⟨v4, hv4, hr⟩ := of_bind1 hr
        obtain ⟨hg12, hr⟩ := of_guard1 hr
        obtain ⟨v5, hv5, hr⟩ := of_bind1 hr
        try simp only [hv4, hv5, Option.getD_some, Option.isSome_some, true_and, and_assoc]
        repeat (first | refine gG hg12 ?_ | refine gA ?_ | refine gB ?_)
        refine ⟨fun hc => ?_, fun hc => ?_⟩
        · replace hr := ifP1 hr hc
          obtain ⟨hg9, hr⟩ := of_guard1 hr
          obtain ⟨hg10, hr⟩ := of_guard1 hr
          obtain ⟨v6, hv6, hr⟩ := of_bind1 hr
          obtain ⟨v7, hv7, hr⟩ := of_bind1 hr
          obtain ⟨v8, hv8, hr⟩ := of_bind1 hr
          try simp only [hv6, hv7, hv8, Option.getD_some, Option.isSome_some, true_and, and_assoc]
          repeat (first | refine gA ?_ | refine gB ?_)
          refine ⟨fun hc => ?_, fun hc => ?_⟩
          · replace hr := ifP1 hr hc
            repeat refine gA ?_
            have hr := of_out0 hr
            obtain rfl := Option.some.inj hr
            (simp (maxDischargeDepth := 8) [go_sem])
          · replace hr := ifN1 hr hc
            repeat refine gA ?_
            refine S.sees [0, 23, 24, 25] [] [] ?_ hr
            (simp (maxDischargeDepth := 8) [go_sem])
        · replace hr := ifN1 hr hc
          repeat refine gA ?_
          refine ⟨fun hc => ?_, fun hc => ?_⟩
          · replace hr := ifP1 hr hc
            repeat refine gA ?_
            have hr := of_out0 hr
            obtain rfl := Option.some.inj hr
            (simp (maxDischargeDepth := 8) [go_sem])
          · replace hr := ifN1 hr hc
            repeat refine gA ?_
            refine S.sees [0, 23, 24, 25] [] [] ?_ hr
            (simp (maxDischargeDepth := 8) [go_sem])
      · replace hr := ifN1 hr hc
        repeat refine gA ?_
        have hr := of_out0 hr
        repeat refine gA ?_
        obtain rfl := Option.some.inj hr
        (simp (maxDischargeDepth := 8) [go_sem])
theorem f99 : FnFact Try.prog 99 T99.sp := ⟨⟨Try.f99, Try.func99, by decide, rfl⟩, v99⟩

/- martensite/heat.points -/
def b148_1 (a0 : List (Int × Int)) : ((List (Int × Int)) × Int) → Ctl ((List (Int × Int)) × Int) ((List (Int × Int))) := fun s1 =>
  if (decide (s1.2 < (a0.length : Int))) = true then
   if 0 ≤ s1.2 ∧ s1.2 < (a0.length : Int) then
    if (s1.1.length + 1) * 16 ≤ 140737488355328 ∧ s1.1.length + 1 ≤ 9223372036854775807 then
     .next (s1.1 ++ [((a0.getD s1.2.toNat default).1, (a0.getD s1.2.toNat default).2)], IntKind.i64.wrap (s1.2 + 1))
     else .out none
    else .out none
   else .out (some s1.1)
def r148 (a0 : List (Int × Int)) : Option ((List (Int × Int))) :=
  iterC (b148_1 a0) 1000000000 ([], 0)
def T148 : TSpec ((List (Int × Int))) where
  enc x := [.c (encF 2 d_II x)]
  dec a := decF g_II (aCell a 0 0)
  pre x := (r148 x).isSome = true
  res x := [.c (.own (encF 2 d_II ((r148 x).getD default)))]
  al := false
def tb148 : Fns := lk []
theorem tb148_ok : FnsOk Try.prog tb148 := FnsOk.nil
theorem v148 : Valid Try.prog 148 T148.sp := by
  refine valid_t (fn := Try.f148) (n := 22) ty_ok tb148_ok Try.func148 rfl Try.ntmps148 ?_
  rintro a0 hx
  obtain ⟨r, hr⟩ := Option.isSome_iff_exists.1 (show (r148 a0).isSome = true from hx)
  have hres : T148.res a0 = [.c (.own (encF 2 d_II r))] := by simp only [T148, hr, Option.getD_some]
  refine ⟨Nat.le_of_ble_eq_true rfl, fun stop S => ?_⟩
  rw [hres] at S
  unfold r148 at hr
  refine S.goB [] 1000 ?_
  simp (maxSteps := 10000000) only [go_sem, T148, Option.map_some, Int.reduceToNat, Nat.reduceEqDiff, Nat.reduceLT, Nat.reduceAdd, Nat.reduceMul, Nat.reduceSub, Nat.reduceLeDiff, reduceIte, reduceCtorEq, Try.results148]
  repeat refine gA ?_
  refine S.own0 3 1000300 2 rfl rfl ?_
  refine S.sees [3, 6, 7, 8] [] [(1000300, 1000300)] ?_ (Stop.iter S (fun s1 => ⟨[(3, .c (.own 1000300)), (6, .c (.d (encF 2 d_II a0))), (7, .c (.d (.int .i64 (a0.length : Int)))), (8, .c (.d (.int .i64 s1.2)))], [], [(1000300, .owned (encF 2 d_II s1.1))]⟩) (b148_1 a0) (fun q => q = r) hr rfl ?_)
  · (simp (maxDischargeDepth := 8) [go_sem])
  · intro s1 hr
    unfold b148_1 at hr
    refine S.goB [] 1000 ?_
    simp (maxSteps := 10000000) only [go_sem, T148, Option.map_some, Int.reduceToNat, Nat.reduceEqDiff, Nat.reduceLT, Nat.reduceAdd, Nat.reduceMul, Nat.reduceSub, Nat.reduceLeDiff, reduceIte, reduceCtorEq, Try.results148]
    repeat refine gA ?_
    refine ⟨fun hc => ?_, fun hc => ?_⟩
    · replace hr := ifP1 hr hc
      obtain ⟨hg1, hr⟩ := of_guard1 hr
      obtain ⟨hg2, hr⟩ := of_guard1 hr
      repeat refine gA ?_
      refine S.sees [3, 6, 7, 8] [] [(19, 1000300)] ?_ hr
      (simp (maxDischargeDepth := 8) [go_sem])
    · replace hr := ifN1 hr hc
      repeat refine gA ?_
      have hr := of_out0 hr
      repeat refine gA ?_
      obtain rfl := Option.some.inj hr
      (simp (maxDischargeDepth := 8) [go_sem])
theorem f148 : FnFact Try.prog 148 T148.sp := ⟨⟨Try.f148, Try.func148, by decide, rfl⟩, v148⟩

/- slices.Grow on nil -/
theorem grow160w (w : World) (m : Nat) (h0 : 0 < m) (h1 : m ≤ 1000000) :
    Calls Try.prog 160 #[.slice none 0 0, .int .i64 (m : Int)] w fun e w' => ∃ v, e = .returned v ∧ ∃ cap c, v = .slice (some ⟨w.heap.size, 0, none⟩) 0 cap ∧ w' = w.drew.alloc (.cells c 192) ∧ c.size = cap * 2 := by
  have hbytes : Try.t192.bytes = 16 := rfl
  have hns : Builtin.nextslicecap m 0 = m := nextslicecap_zero h0
  go_enter Try.func160, Try.ntmps160
  go_wp2
  all_goals try (exfalso; simp only [hbytes, hns] at *; omega)
  all_goals go_ret
  refine ⟨_, rfl, _, rfl, _, rfl, ?_⟩
  have hcap := grownCap_ge w m 0 192
  simp only [grownCap] at hcap
  simp [Builtin.zeroCells]
  omega
theorem grow160z (w : World) :
    Calls Try.prog 160 #[.slice none 0 0, .int .i64 0] w fun e w' => ∃ v, e = .returned v ∧ v = .slice none 0 0 ∧ w' = w := by
  go_enter Try.func160, Try.ntmps160
  go_wp2
  all_goals go_ret
  exact ⟨_, rfl, rfl, rfl⟩
theorem grow160 (n : Int) (h0 : 0 ≤ n) (h1 : n ≤ 1000000) (w : World) : Calls Try.prog 160 #[.slice none 0 0, .int .i64 n] w fun e w' => ∃ v, e = .returned v ∧ GrowPost 2 w w' v := by
  obtain ⟨m, rfl⟩ : ∃ m : Nat, n = m := ⟨n.toNat, by omega⟩
  rcases Nat.eq_zero_or_pos m with rfl | hm
  · refine (grow160z w).mono ?_
    rintro e w' ⟨v, rfl, rfl, rfl⟩
    exact ⟨_, rfl, .refl _, Nat.le_refl _, fun _ _ => rfl, .inl rfl⟩
  · refine (grow160w w m hm (by omega)).mono ?_
    rintro e w' ⟨v, rfl, cap, c, rfl, rfl, hc⟩
    have hh : (w.drew.alloc (.cells c 192)).heap = w.heap.push (.cells c 192 (0, 0)) := rfl
    refine ⟨_, rfl, ⟨rfl, rfl, rfl⟩, by rw [hh, Array.size_push]; exact Nat.le_succ _, fun B hB => ?_, .inr ⟨_, cap, c, _, rfl, Nat.le_refl _, by rw [hh, Array.size_push]; exact Nat.lt_succ_self _, by rw [hh, Array.getElem?_push_size], hc⟩⟩
    rw [hh, Array.getElem?_push, if_neg (Nat.ne_of_lt hB)]

/- slices.Concat[[]martensite/heat.pair,martensite/heat.pair] -/
def b149_2 (a0 : List ((List (Int × Int)))) : (Int × (List (Int × Int))) → Ctl (Int × (List (Int × Int))) ((List (Int × Int))) := fun s2 =>
  if (decide (s2.1 < (a0.length : Int))) = true then
   if 0 ≤ s2.1 ∧ s2.1 < (a0.length : Int) then
    if (s2.2.length + (a0.getD s2.1.toNat default).length) * 16 ≤ 140737488355328 ∧ s2.2.length + (a0.getD s2.1.toNat default).length ≤ 9223372036854775807 then
     .next (IntKind.i64.wrap (s2.1 + 1), s2.2 ++ (a0.getD s2.1.toNat default))
     else .out none
    else .out none
   else .out (some s2.2)
def b149_1 (a0 : List ((List (Int × Int)))) : (Int × Int) → Ctl (Int × Int) ((List (Int × Int))) := fun s1 =>
  if (decide (s1.2 < (a0.length : Int))) = true then
   if 0 ≤ s1.2 ∧ s1.2 < (a0.length : Int) then
    if (decide ((IntKind.i64.wrap (s1.1 + ((a0.getD s1.2.toNat default).length : Int))) < 0)) = true then
     .out none
     else .next (IntKind.i64.wrap (s1.1 + ((a0.getD s1.2.toNat default).length : Int)), IntKind.i64.wrap (s1.2 + 1))
    else .out none
   else .out (if 0 ≤ s1.1 ∧ s1.1 ≤ 1000000 then
    iterC (b149_2 a0) 1000000000 (0, ([] : List (Int × Int)))
    else none)
def r149 (a0 : List ((List (Int × Int)))) : Option ((List (Int × Int))) :=
  iterC (b149_1 a0) 1000000000 (0, 0)
def T149 : TSpec ((List ((List (Int × Int))))) where
  enc x := [.c (encF 1 d_LIIE x)]
  dec a := decF g_LIIE (aCell a 0 0)
  pre x := (r149 x).isSome = true
  res x := [.c (.own (encF 2 d_II ((r149 x).getD default)))]
  al := false
def tb149 : Fns := lk []
theorem tb149_ok : FnsOk Try.prog tb149 := FnsOk.nil
theorem v149 : Valid Try.prog 149 T149.sp := by
  refine valid_t (fn := Try.f149) (n := 36) ty_ok tb149_ok Try.func149 rfl Try.ntmps149 ?_
  rintro a0 hx
  obtain ⟨r, hr⟩ := Option.isSome_iff_exists.1 (show (r149 a0).isSome = true from hx)
  have hres : T149.res a0 = [.c (.own (encF 2 d_II r))] := by simp only [T149, hr, Option.getD_some]
  refine ⟨Nat.le_of_ble_eq_true rfl, fun stop S => ?_⟩
  rw [hres] at S
  unfold r149 at hr
  refine S.goB [9] 1000 ?_
  simp (maxSteps := 10000000) only [go_sem, T149, Option.map_some, Int.reduceToNat, Nat.reduceEqDiff, Nat.reduceLT, Nat.reduceAdd, Nat.reduceMul, Nat.reduceSub, Nat.reduceLeDiff, reduceIte, reduceCtorEq, Try.results149]
  repeat refine gA ?_
  refine S.sees [0, 3, 9, 10, 11] [] [] ?_ (Stop.iter S (fun s1 => ⟨[(0, .c (.d (encF 1 d_LIIE a0))), (3, .c (.d (.int .i64 s1.1))), (9, .c (.d (encF 1 d_LIIE a0))), (10, .c (.d (.int .i64 (a0.length : Int)))), (11, .c (.d (.int .i64 s1.2)))], [], []⟩) (b149_1 a0) (fun q => q = r) hr rfl ?_)
  · (simp (maxDischargeDepth := 8) [go_sem])
  · intro s1 hr
    unfold b149_1 at hr
    refine S.goB [9] 1000 ?_
    simp (maxSteps := 10000000) only [go_sem, T149, Option.map_some, Int.reduceToNat, Nat.reduceEqDiff, Nat.reduceLT, Nat.reduceAdd, Nat.reduceMul, Nat.reduceSub, Nat.reduceLeDiff, reduceIte, reduceCtorEq, Try.results149]
    repeat refine gA ?_
    refine ⟨fun hc => ?_, fun hc => ?_⟩
    · replace hr := ifP1 hr hc
      obtain ⟨hg1, hr⟩ := of_guard1 hr
      repeat refine gA ?_
      refine ⟨fun hc => ?_, fun hc => ?_⟩
      · replace hr := ifP1 hr hc
        repeat refine gA ?_
        first | cases hr | exact hr.elim
      · replace hr := ifN1 hr hc
        repeat refine gA ?_
        refine S.sees [0, 3, 9, 10, 11] [] [] ?_ hr
        (simp (maxDischargeDepth := 8) [go_sem])
    · replace hr := ifN1 hr hc
      repeat refine gA ?_
      have hr := of_out0 hr
      repeat refine gA ?_
      obtain ⟨hg2, hr⟩ := of_guard0 hr
      repeat refine gA ?_
      refine S.callGrow 1 23 24 3000024 2 rfl rfl rfl rfl (by decide) Try.func160 (by decide) rfl (grow160 _ hg2.1 hg2.2) ?_
      simp (maxSteps := 10000000) only [go_sem, T149, Option.map_some, Int.reduceToNat, Nat.reduceEqDiff, Nat.reduceLT, Nat.reduceAdd, Nat.reduceMul, Nat.reduceSub, Nat.reduceLeDiff, reduceIte, reduceCtorEq, Try.results149]
      repeat refine gA ?_
      refine S.goB [9] 1000 ?_
      simp (maxSteps := 10000000) only [go_sem, T149, Option.map_some, Int.reduceToNat, Nat.reduceEqDiff, Nat.reduceLT, Nat.reduceAdd, Nat.reduceMul, Nat.reduceSub, Nat.reduceLeDiff, reduceIte, reduceCtorEq, Try.results149]
      repeat refine gA ?_
      repeat refine gA ?_
      refine S.sees [6, 25, 26, 27] [] [(3000024, 3000024)] ?_ (Stop.iter S (fun s2 => ⟨[(6, .c (.own 3000024)), (25, .c (.d (encF 1 d_LIIE a0))), (26, .c (.d (.int .i64 (a0.length : Int)))), (27, .c (.d (.int .i64 s2.1)))], [], [(3000024, .owned (encF 2 d_II s2.2))]⟩) (b149_2 a0) (fun q => q = r) hr rfl ?_)
      · (simp (maxDischargeDepth := 8) [go_sem])
      · intro s2 hr
        unfold b149_2 at hr
        refine S.goB [9] 1000 ?_
        simp (maxSteps := 10000000) only [go_sem, T149, Option.map_some, Int.reduceToNat, Nat.reduceEqDiff, Nat.reduceLT, Nat.reduceAdd, Nat.reduceMul, Nat.reduceSub, Nat.reduceLeDiff, reduceIte, reduceCtorEq, Try.results149]
        repeat refine gA ?_
        refine ⟨fun hc => ?_, fun hc => ?_⟩
        · replace hr := ifP1 hr hc
          obtain ⟨hg3, hr⟩ := of_guard1 hr
          obtain ⟨hg4, hr⟩ := of_guard1 hr
          repeat refine gA ?_
          refine S.sees [6, 25, 26, 27] [] [(33, 3000024)] ?_ hr
          (simp (maxDischargeDepth := 8) [go_sem])
        · replace hr := ifN1 hr hc
          repeat refine gA ?_
          have hr := of_out0 hr
          repeat refine gA ?_
          obtain rfl := Option.some.inj hr
          (simp (maxDischargeDepth := 8) [go_sem])
theorem f149 : FnFact Try.prog 149 T149.sp := ⟨⟨Try.f149, Try.func149, by decide, rfl⟩, v149⟩

/- cmp.isNaN[int] -/
def r161 (a0 : Int) : Option (Bool) :=
  some (a0 != a0)
def T161 : TSpec (Int) where
  enc x := [.c (.int .i64 x)]
  dec a := dInt (aCell a 0 0)
  pre x := (r161 x).isSome = true
  res x := [.c (.d (.bool ((r161 x).getD default)))]
  al := false
def tb161 : Fns := lk []
theorem tb161_ok : FnsOk Try.prog tb161 := FnsOk.nil
theorem v161 : Valid Try.prog 161 T161.sp := by
  refine valid_t (fn := Try.f161) (n := 6) ty_ok tb161_ok Try.func161 rfl Try.ntmps161 ?_
  rintro a0 hx
  obtain ⟨r, hr⟩ := Option.isSome_iff_exists.1 (show (r161 a0).isSome = true from hx)
  have hres : T161.res a0 = [.c (.d (.bool r))] := by simp only [T161, hr, Option.getD_some]
  refine ⟨Nat.le_of_ble_eq_true rfl, fun stop S => ?_⟩
  rw [hres] at S
  unfold r161 at hr
  refine S.goB [] 1000 ?_
  simp (maxSteps := 10000000) only [go_sem, T161, Option.map_some, Int.reduceToNat, Nat.reduceEqDiff, Nat.reduceLT, Nat.reduceAdd, Nat.reduceMul, Nat.reduceSub, Nat.reduceLeDiff, reduceIte, reduceCtorEq, Try.results161]
  repeat refine gA ?_
  obtain rfl := Option.some.inj hr
  (simp (maxDischargeDepth := 8) [go_sem])
theorem f161 : FnFact Try.prog 161 T161.sp := ⟨⟨Try.f161, Try.func161, by decide, rfl⟩, v161⟩

/- cmp.Compare[int] -/
def r156 (a0 : Int) (a1 : Int) : Option (Int) :=
  (r161 a0).bind fun v1 =>
   (r161 a1).bind fun v2 =>
    if v1 = true then
     if v2 = true then
      some 0
      else some (-1)
     else if v2 = true then
      some 1
      else if (decide (a0 < a1)) = true then
       some (-1)
       else if (decide (a0 > a1)) = true then
        some 1
        else some 0
def T156 : TSpec (Int × Int) where
  enc x := [.c (.int .i64 x.1), .c (.int .i64 x.2)]
  dec a := (dInt (aCell a 0 0), dInt (aCell a 1 0))
  pre x := (r156 x.1 x.2).isSome = true
  res x := [.c (.d (.int .i64 ((r156 x.1 x.2).getD default)))]
  al := false
def tb156 : Fns := lk [(161, T161.sp)]
theorem tb156_ok : FnsOk Try.prog tb156 := .cons f161 (FnsOk.nil)
theorem tb156_161 : tb156 161 = some T161.sp := rfl
theorem v156 : Valid Try.prog 156 T156.sp := by
  refine valid_t (fn := Try.f156) (n := 20) ty_ok tb156_ok Try.func156 rfl Try.ntmps156 ?_
  rintro ⟨a0, a1⟩ hx
  obtain ⟨r, hr⟩ := Option.isSome_iff_exists.1 (show (r156 a0 a1).isSome = true from hx)
  have hres : T156.res (a0, a1) = [.c (.d (.int .i64 r))] := by simp only [T156, hr, Option.getD_some]
  refine ⟨Nat.le_of_ble_eq_true rfl, fun stop S => ?_⟩
  rw [hres] at S
  unfold r156 at hr
  refine S.goB [] 1000 ?_
  simp (maxSteps := 10000000) only [go_sem, tb156_161, T161, T156, Option.map_some, Int.reduceToNat, Nat.reduceEqDiff, Nat.reduceLT, Nat.reduceAdd, Nat.reduceMul, Nat.reduceSub, Nat.reduceLeDiff, reduceIte, reduceCtorEq, Try.results156]
  obtain ⟨v1, hv1, hr⟩ := of_bind0 hr
  obtain ⟨v2, hv2, hr⟩ := of_bind0 hr
  try simp only [hv1, hv2, Option.getD_some, Option.isSome_some, true_and, and_assoc]
  repeat refine gA ?_
  refine ⟨fun hc => ?_, fun hc => ?_⟩
  · replace hr := ifP hr hc
    repeat refine gA ?_
    refine ⟨fun hc => ?_, fun hc => ?_⟩
    · replace hr := ifP hr hc
      repeat refine gA ?_
      obtain rfl := Option.some.inj hr
      (simp (maxDischargeDepth := 8) [go_sem])
    · replace hr := ifN hr hc
      repeat refine gA ?_
      obtain rfl := Option.some.inj hr
      (simp (maxDischargeDepth := 8) [go_sem])
  · replace hr := ifN hr hc
    repeat refine gA ?_
    refine ⟨fun hc => ?_, fun hc => ?_⟩
    · replace hr := ifP hr hc
      repeat refine gA ?_
      obtain rfl := Option.some.inj hr
      (simp (maxDischargeDepth := 8) [go_sem])
    · replace hr := ifN hr hc
      repeat refine gA ?_
      refine ⟨fun hc => ?_, fun hc => ?_⟩
      · replace hr := ifP hr hc
        repeat refine gA ?_
        obtain rfl := Option.some.inj hr
        (simp (maxDischargeDepth := 8) [go_sem])
      · replace hr := ifN hr hc
        repeat refine gA ?_
        refine ⟨fun hc => ?_, fun hc => ?_⟩
        · replace hr := ifP hr hc
          repeat refine gA ?_
          obtain rfl := Option.some.inj hr
          (simp (maxDischargeDepth := 8) [go_sem])
        · replace hr := ifN hr hc
          repeat refine gA ?_
          obtain rfl := Option.some.inj hr
          (simp (maxDischargeDepth := 8) [go_sem])
theorem f156 : FnFact Try.prog 156 T156.sp := ⟨⟨Try.f156, Try.func156, by decide, rfl⟩, v156⟩

/- martensite/heat.between$1 -/
def r155 (a0_0 : Int) (a0_1 : Int) (a1_0 : Int) (a1_1 : Int) : Option (Int) :=
  (r156 (IntKind.i64.wrap (a0_0 * a1_1)) a1_0).bind fun v1 =>
   some v1
def T155 : TSpec (Int × Int × Int × Int) where
  enc x := [.agg [.int .i64 x.1, .int .i64 x.2.1], .agg [.int .i64 x.2.2.1, .int .i64 x.2.2.2]]
  dec a := (dInt (aCell a 0 0), dInt (aCell a 0 1), dInt (aCell a 1 0), dInt (aCell a 1 1))
  pre x := (r155 x.1 x.2.1 x.2.2.1 x.2.2.2).isSome = true
  res x := [.c (.d (.int .i64 ((r155 x.1 x.2.1 x.2.2.1 x.2.2.2).getD default)))]
  al := false
def tb155 : Fns := lk [(156, T156.sp)]
theorem tb155_ok : FnsOk Try.prog tb155 := .cons f156 (FnsOk.nil)
theorem tb155_156 : tb155 156 = some T156.sp := rfl
theorem v155 : Valid Try.prog 155 T155.sp := by
  refine valid_t (fn := Try.f155) (n := 13) ty_ok tb155_ok Try.func155 rfl Try.ntmps155 ?_
  rintro ⟨a0_0, a0_1, a1_0, a1_1⟩ hx
  obtain ⟨r, hr⟩ := Option.isSome_iff_exists.1 (show (r155 a0_0 a0_1 a1_0 a1_1).isSome = true from hx)
  have hres : T155.res (a0_0, a0_1, a1_0, a1_1) = [.c (.d (.int .i64 r))] := by simp only [T155, hr, Option.getD_some]
  refine ⟨Nat.le_of_ble_eq_true rfl, fun stop S => ?_⟩
  rw [hres] at S
  unfold r155 at hr
  refine S.goB [] 1000 ?_
  simp (maxSteps := 10000000) only [go_sem, tb155_156, T156, T155, Option.map_some, Int.reduceToNat, Nat.reduceEqDiff, Nat.reduceLT, Nat.reduceAdd, Nat.reduceMul, Nat.reduceSub, Nat.reduceLeDiff, reduceIte, reduceCtorEq, Try.results155]
  obtain ⟨v1, hv1, hr⟩ := of_bind0 hr
  try simp only [hv1, Option.getD_some, Option.isSome_some, true_and, and_assoc]
  repeat refine gA ?_
  obtain rfl := Option.some.inj hr
  (simp (maxDischargeDepth := 8) [go_sem])
theorem f155 : FnFact Try.prog 155 T155.sp := ⟨⟨Try.f155, Try.func155, by decide, rfl⟩, v155⟩

/- slices.BinarySearchFunc[[]martensite/heat.pair,martensite/heat.pair,martensite/heat.ratio] -/
def b154_1 (a0 : List (Int × Int)) (a1_0 : Int) (a1_1 : Int) : (Int × Int) → Ctl (Int × Int) (Int × Bool) := fun s1 =>
  if (decide (s1.1 < s1.2)) = true then
   if 0 ≤ IntKind.i64.wrap ((IntKind.u64.wrap (IntKind.i64.wrap (s1.1 + s1.2))) / 2 ^ 1) ∧ IntKind.i64.wrap ((IntKind.u64.wrap (IntKind.i64.wrap (s1.1 + s1.2))) / 2 ^ 1) < (a0.length : Int) then
    bindC (r155 ((a0.getD (IntKind.i64.wrap ((IntKind.u64.wrap (IntKind.i64.wrap (s1.1 + s1.2))) / 2 ^ 1)).toNat default).1) ((a0.getD (IntKind.i64.wrap ((IntKind.u64.wrap (IntKind.i64.wrap (s1.1 + s1.2))) / 2 ^ 1)).toNat default).2) a1_0 a1_1) fun v1 =>
     if (decide (v1 < 0)) = true then
      .next (IntKind.i64.wrap ((IntKind.i64.wrap ((IntKind.u64.wrap (IntKind.i64.wrap (s1.1 + s1.2))) / 2 ^ 1)) + 1), s1.2)
      else .next (s1.1, IntKind.i64.wrap ((IntKind.u64.wrap (IntKind.i64.wrap (s1.1 + s1.2))) / 2 ^ 1))
    else .out none
   else .out (if (decide (s1.1 < (a0.length : Int))) = true → 0 ≤ s1.1 ∧ s1.1 < (a0.length : Int) then
    if (decide (s1.1 < (a0.length : Int))) = true → (r155 ((a0.getD s1.1.toNat default).1) ((a0.getD s1.1.toNat default).2) a1_0 a1_1).isSome = true then
     some (s1.1, (decide (s1.1 < (a0.length : Int))) && (((r155 ((a0.getD s1.1.toNat default).1) ((a0.getD s1.1.toNat default).2) a1_0 a1_1).getD default) == 0))
     else none
    else none)
def r154 (a0 : List (Int × Int)) (a1_0 : Int) (a1_1 : Int) : Option (Int × Bool) :=
  iterC (b154_1 a0 a1_0 a1_1) 1000000000 (0, (a0.length : Int))
def T154 : TSpec ((List (Int × Int)) × Int × Int) where
  enc x := [.c (encF 2 d_II x.1), .agg [.int .i64 x.2.1, .int .i64 x.2.2], .clo 155 []]
  dec a := (decF g_II (aCell a 0 0), dInt (aCell a 1 0), dInt (aCell a 1 1))
  pre x := (r154 x.1 x.2.1 x.2.2).isSome = true
  res x := [.c (.d (.int .i64 (((r154 x.1 x.2.1 x.2.2).getD default).1))), .c (.d (.bool (((r154 x.1 x.2.1 x.2.2).getD default).2)))]
  al := false
def tb154 : Fns := lk [(155, T155.sp)]
theorem tb154_ok : FnsOk Try.prog tb154 := .cons f155 (FnsOk.nil)
theorem tb154_155 : tb154 155 = some T155.sp := rfl
theorem v154 : Valid Try.prog 154 T154.sp := by
  refine valid_t (fn := Try.f154) (n := 49) ty_ok tb154_ok Try.func154 rfl Try.ntmps154 ?_
  rintro ⟨a0, a1_0, a1_1⟩ hx
  obtain ⟨r, hr⟩ := Option.isSome_iff_exists.1 (show (r154 a0 a1_0 a1_1).isSome = true from hx)
  have hres : T154.res (a0, a1_0, a1_1) = [.c (.d (.int .i64 r.1)), .c (.d (.bool r.2))] := by simp only [T154, hr, Option.getD_some]
  refine ⟨Nat.le_of_ble_eq_true rfl, fun stop S => ?_⟩
  rw [hres] at S
  unfold r154 at hr
  refine S.goB [] 1000 ?_
  simp (maxSteps := 10000000) only [go_sem, tb154_155, T155, T154, Option.map_some, Int.reduceToNat, Nat.reduceEqDiff, Nat.reduceLT, Nat.reduceAdd, Nat.reduceMul, Nat.reduceSub, Nat.reduceLeDiff, reduceIte, reduceCtorEq, Try.results154]
  repeat refine gA ?_
  refine S.sees [0, 2, 4, 8, 9, 10] [(4, 4)] [] ?_ (Stop.iter S (fun s1 => ⟨[(0, .c (.d (encF 2 d_II a0))), (2, .c (.clo 155 [])), (4, .c (.ref 4 0)), (8, .c (.d (.int .i64 (a0.length : Int)))), (9, .c (.d (.int .i64 s1.1))), (10, .c (.d (.int .i64 s1.2)))], [(4, [.d (.int .i64 a1_0), .d (.int .i64 a1_1)])], []⟩) (b154_1 a0 a1_0 a1_1) (fun q => q = r) hr rfl ?_)
  · (simp (maxDischargeDepth := 8) [go_sem])
  · intro s1 hr
    unfold b154_1 at hr
    refine S.goB [] 1000 ?_
    simp (maxSteps := 10000000) only [go_sem, tb154_155, T155, T154, Option.map_some, Int.reduceToNat, Nat.reduceEqDiff, Nat.reduceLT, Nat.reduceAdd, Nat.reduceMul, Nat.reduceSub, Nat.reduceLeDiff, reduceIte, reduceCtorEq, Try.results154]
    repeat refine gA ?_
    refine ⟨fun hc => ?_, fun hc => ?_⟩
    · replace hr := ifP1 hr hc
      obtain ⟨hg2, hr⟩ := of_guard1 hr
      obtain ⟨v1, hv1, hr⟩ := of_bind1 hr
      try simp only [hv1, Option.getD_some, Option.isSome_some, true_and, and_assoc]
      repeat refine gA ?_
      refine ⟨fun hc => ?_, fun hc => ?_⟩
      · replace hr := ifP1 hr hc
        repeat refine gA ?_
        refine S.sees [0, 2, 4, 8, 9, 10] [(4, 4)] [] ?_ hr
        (simp (maxDischargeDepth := 8) [go_sem])
      · replace hr := ifN1 hr hc
        repeat refine gA ?_
        refine S.sees [0, 2, 4, 8, 9, 10] [(4, 4)] [] ?_ hr
        (simp (maxDischargeDepth := 8) [go_sem])
    · replace hr := ifN1 hr hc
      repeat refine gA ?_
      have hr := of_out0 hr
      obtain ⟨hg3, hr⟩ := of_guard0 hr
      obtain ⟨hg4, hr⟩ := of_guard0 hr
      repeat (first | refine gG hg3 ?_ | refine gG hg4 ?_ | refine gA ?_ | refine gB ?_)
      obtain rfl := Option.some.inj hr
      (simp (maxDischargeDepth := 8) [go_sem])
theorem f154 : FnFact Try.prog 154 T154.sp := ⟨⟨Try.f154, Try.func154, by decide, rfl⟩, v154⟩

/- martensite/heat.between -/
def r123 (a0 : List (Int × Int)) (a1_0 : Int) (a1_1 : Int) : Option (Int × Int) :=
  (r154 a0 a1_0 a1_1).bind fun v1 =>
   if ((a0.length : Int) == 0) = true then
    some (0, 1)
    else if (v1.1 == 0) = true then
     if 0 ≤ 0 ∧ 0 < (a0.length : Int) then
      some ((a0.getD 0 default).2, 1)
      else none
     else if (v1.1 == (a0.length : Int)) = true then
      if 0 ≤ IntKind.i64.wrap (v1.1 - 1) ∧ IntKind.i64.wrap (v1.1 - 1) < (a0.length : Int) then
       some ((a0.getD (IntKind.i64.wrap (v1.1 - 1)).toNat default).2, 1)
       else none
      else if 0 ≤ IntKind.i64.wrap (v1.1 - 1) ∧ IntKind.i64.wrap (v1.1 - 1) < (a0.length : Int) then
       if 0 ≤ v1.1 ∧ v1.1 < (a0.length : Int) then
        some (IntKind.i64.wrap ((IntKind.i64.wrap (((a0.getD (IntKind.i64.wrap (v1.1 - 1)).toNat default).2) * (IntKind.i64.wrap ((IntKind.i64.wrap (((a0.getD v1.1.toNat default).1) - ((a0.getD (IntKind.i64.wrap (v1.1 - 1)).toNat default).1))) * a1_1)))) + (IntKind.i64.wrap ((IntKind.i64.wrap (((a0.getD v1.1.toNat default).2) - ((a0.getD (IntKind.i64.wrap (v1.1 - 1)).toNat default).2))) * (IntKind.i64.wrap (a1_0 - (IntKind.i64.wrap (((a0.getD (IntKind.i64.wrap (v1.1 - 1)).toNat default).1) * a1_1))))))), IntKind.i64.wrap ((IntKind.i64.wrap (((a0.getD v1.1.toNat default).1) - ((a0.getD (IntKind.i64.wrap (v1.1 - 1)).toNat default).1))) * a1_1))
        else none
       else none
def T123 : TSpec ((List (Int × Int)) × Int × Int) where
  enc x := [.c (encF 2 d_II x.1), .agg [.int .i64 x.2.1, .int .i64 x.2.2]]
  dec a := (decF g_II (aCell a 0 0), dInt (aCell a 1 0), dInt (aCell a 1 1))
  pre x := (r123 x.1 x.2.1 x.2.2).isSome = true
  res x := [.agg [.d (.int .i64 (((r123 x.1 x.2.1 x.2.2).getD default).1)), .d (.int .i64 (((r123 x.1 x.2.1 x.2.2).getD default).2))]]
  al := false
def tb123 : Fns := lk [(154, T154.sp)]
theorem tb123_ok : FnsOk Try.prog tb123 := .cons f154 (FnsOk.nil)
theorem tb123_154 : tb123 154 = some T154.sp := rfl
theorem v123 : Valid Try.prog 123 T123.sp := by
  refine valid_t (fn := Try.f123) (n := 79) ty_ok tb123_ok Try.func123 rfl Try.ntmps123 ?_
  rintro ⟨a0, a1_0, a1_1⟩ hx
  obtain ⟨r, hr⟩ := Option.isSome_iff_exists.1 (show (r123 a0 a1_0 a1_1).isSome = true from hx)
  have hres : T123.res (a0, a1_0, a1_1) = [.agg [.d (.int .i64 r.1), .d (.int .i64 r.2)]] := by simp only [T123, hr, Option.getD_some]
  refine ⟨Nat.le_of_ble_eq_true rfl, fun stop S => ?_⟩
  rw [hres] at S
  unfold r123 at hr
  refine S.goB [] 1000 ?_
  simp (maxSteps := 10000000) only [go_sem, tb123_154, T154, T123, Option.map_some, Int.reduceToNat, Nat.reduceEqDiff, Nat.reduceLT, Nat.reduceAdd, Nat.reduceMul, Nat.reduceSub, Nat.reduceLeDiff, reduceIte, reduceCtorEq, Try.results123]
  obtain ⟨v1, hv1, hr⟩ := of_bind0 hr
  try simp only [hv1, Option.getD_some, Option.isSome_some, true_and, and_assoc]
  repeat refine gA ?_
  refine ⟨fun hc => ?_, fun hc => ?_⟩
  · replace hr := ifP hr hc
    repeat refine gA ?_
    obtain rfl := Option.some.inj hr
    (simp (maxDischargeDepth := 8) [go_sem])
  · replace hr := ifN hr hc
    repeat refine gA ?_
    refine ⟨fun hc => ?_, fun hc => ?_⟩
    · replace hr := ifP hr hc
      obtain ⟨hg2, hr⟩ := of_guard0 hr
      repeat refine gA ?_
      obtain rfl := Option.some.inj hr
      (simp (maxDischargeDepth := 8) [go_sem])
    · replace hr := ifN hr hc
      repeat refine gA ?_
      refine ⟨fun hc => ?_, fun hc => ?_⟩
      · replace hr := ifP hr hc
        obtain ⟨hg3, hr⟩ := of_guard0 hr
        repeat refine gA ?_
        obtain rfl := Option.some.inj hr
        (simp (maxDischargeDepth := 8) [go_sem])
      · replace hr := ifN hr hc
        obtain ⟨hg4, hr⟩ := of_guard0 hr
        obtain ⟨hg5, hr⟩ := of_guard0 hr
        repeat refine gA ?_
        obtain rfl := Option.some.inj hr
        (simp (maxDischargeDepth := 8) [go_sem])
theorem f123 : FnFact Try.prog 123 T123.sp := ⟨⟨Try.f123, Try.func123, by decide, rfl⟩, v123⟩

/- martensite/heat.lawErr -/
def b100_2 (v10 : (List (Int × Int))) (v11 : (List (Int × Int))) (v12 : (List (Int × Int))) : (Int) → Ctl (Int) (Int) := fun s2 =>
  if (decide (s2 < (v12.length : Int))) = true then
   if 0 ≤ s2 ∧ s2 < (v12.length : Int) then
    bindC (r123 v10 ((v12.getD s2.toNat default).1) 1) fun v13 =>
     bindC (r123 v11 ((v12.getD s2.toNat default).1) 1) fun v14 =>
      if (decide ((IntKind.i64.wrap (v13.1 * v14.2)) < (IntKind.i64.wrap (v14.1 * v13.2)))) = true then
       .out (some 13)
       else .next (IntKind.i64.wrap (s2 + 1))
    else .out none
   else .out (some 0)
def b100_1 (a0 : List (Int × Int)) (a1 : List (Int × Int)) : (Int) → Ctl (Int) (Int) := fun s1 =>
  if (decide (s1 < (a0.length : Int))) = true then
   if 0 ≤ s1 ∧ s1 < (a0.length : Int) then
    bindC (r140 ((a0.getD s1.toNat default).1)) fun v1 =>
     if v1 = true → (r90 ((a0.getD s1.toNat default).2) 0 1000).isSome = true then
      bindC (r94 (v1 && ((r90 ((a0.getD s1.toNat default).2) 0 1000).getD default)) 2) fun v2 =>
       if ((v2 == 0) && (decide (s1 > 0))) = true then
        if 0 ≤ IntKind.i64.wrap (s1 - 1) ∧ IntKind.i64.wrap (s1 - 1) < (a0.length : Int) then
         if 0 ≤ IntKind.i64.wrap (s1 - 1) ∧ IntKind.i64.wrap (s1 - 1) < (a0.length : Int) then
          bindC (r94 ((decide ((IntKind.i64.wrap (((a0.getD s1.toNat default).1) - ((a0.getD (IntKind.i64.wrap (s1 - 1)).toNat default).1))) > 0)) && (decide ((IntKind.i64.wrap (((a0.getD s1.toNat default).2) - ((a0.getD (IntKind.i64.wrap (s1 - 1)).toNat default).2))) ≥ 0))) 9) fun v3 =>
           bindC (r94 (decide ((IntKind.i64.wrap (2 * (IntKind.i64.wrap (((a0.getD s1.toNat default).2) - ((a0.getD (IntKind.i64.wrap (s1 - 1)).toNat default).2))))) ≤ (IntKind.i64.wrap (((a0.getD s1.toNat default).1) - ((a0.getD (IntKind.i64.wrap (s1 - 1)).toNat default).1))))) 22) fun v4 =>
            bindC (r91 [v3, v4]) fun v5 =>
             if (v5 != 0) = true then
              .out (some v5)
              else .next (IntKind.i64.wrap (s1 + 1))
          else .out none
         else .out none
        else if (v2 != 0) = true then
         .out (some v2)
         else .next (IntKind.i64.wrap (s1 + 1))
      else .out none
    else .out none
   else .out ((r148 a0).bind fun v10 =>
    (r148 a1).bind fun v11 =>
     (r149 [v10, v11]).bind fun v12 =>
      iterC (b100_2 v10 v11 v12) 1000000000 0)
def r100 (a0 : List (Int × Int)) (a1 : List (Int × Int)) : Option (Int) :=
  if (decide ((a0.length : Int) > 6)) = true then
   some 8
   else iterC (b100_1 a0 a1) 1000000000 0
def T100 : TSpec ((List (Int × Int)) × (List (Int × Int))) where
  enc x := [.c (encF 2 d_II x.1), .c (encF 2 d_II x.2)]
  dec a := (decF g_II (aCell a 0 0), decF g_II (aCell a 1 0))
  pre x := (r100 x.1 x.2).isSome = true
  res x := [.c (.d (.int .i64 ((r100 x.1 x.2).getD default)))]
  al := false
def tb100 : Fns := lk [(90, T90.sp), (91, T91.sp), (94, T94.sp), (123, T123.sp), (140, T140.sp), (148, T148.sp), (149, T149.sp)]
theorem tb100_ok : FnsOk Try.prog tb100 := .cons f90 (.cons f91 (.cons f94 (.cons f123 (.cons f140 (.cons f148 (.cons f149 (FnsOk.nil)))))))
theorem tb100_90 : tb100 90 = some T90.sp := rfl
theorem tb100_91 : tb100 91 = some T91.sp := rfl
theorem tb100_94 : tb100 94 = some T94.sp := rfl
theorem tb100_123 : tb100 123 = some T123.sp := rfl
theorem tb100_140 : tb100 140 = some T140.sp := rfl
theorem tb100_148 : tb100 148 = some T148.sp := rfl
theorem tb100_149 : tb100 149 = some T149.sp := rfl
theorem v100 : Valid Try.prog 100 T100.sp := by
  refine valid_t (fn := Try.f100) (n := 112) ty_ok tb100_ok Try.func100 rfl Try.ntmps100 ?_
  rintro ⟨a0, a1⟩ hx
  obtain ⟨r, hr⟩ := Option.isSome_iff_exists.1 (show (r100 a0 a1).isSome = true from hx)
  have hres : T100.res (a0, a1) = [.c (.d (.int .i64 r))] := by simp only [T100, hr, Option.getD_some]
  refine ⟨Nat.le_of_ble_eq_true rfl, fun stop S => ?_⟩
  rw [hres] at S
  unfold r100 at hr
  refine S.goB [] 1000 ?_
  simp (maxSteps := 10000000) only [go_sem, tb100_90, T90, tb100_91, T91, tb100_94, T94, tb100_123, T123, tb100_140, T140, tb100_148, T148, tb100_149, T149, T100, Option.map_some, Int.reduceToNat, Nat.reduceEqDiff, Nat.reduceLT, Nat.reduceAdd, Nat.reduceMul, Nat.reduceSub, Nat.reduceLeDiff, reduceIte, reduceCtorEq, Try.results100]
  repeat refine gA ?_
  refine ⟨fun hc => ?_, fun hc => ?_⟩
  · replace hr := ifP hr hc
    repeat refine gA ?_
    obtain rfl := Option.some.inj hr
    (simp (maxDischargeDepth := 8) [go_sem])
  · replace hr := ifN hr hc
    repeat refine gA ?_
    refine S.sees [0, 1, 20, 21, 22] [] [] ?_ (Stop.iter S (fun s1 => ⟨[(0, .c (.d (encF 2 d_II a0))), (1, .c (.d (encF 2 d_II a1))), (20, .c (.d (encF 2 d_II a0))), (21, .c (.d (.int .i64 (a0.length : Int)))), (22, .c (.d (.int .i64 s1)))], [], []⟩) (b100_1 a0 a1) (fun q => q = r) hr rfl ?_)
    · (simp (maxDischargeDepth := 8) [go_sem])
    · intro s1 hr
      unfold b100_1 at hr
      refine S.goB [] 1000 ?_
      simp (maxSteps := 10000000) only [go_sem, tb100_90, T90, tb100_91, T91, tb100_94, T94, tb100_123, T123, tb100_140, T140, tb100_148, T148, tb100_149, T149, T100, Option.map_some, Int.reduceToNat, Nat.reduceEqDiff, Nat.reduceLT, Nat.reduceAdd, Nat.reduceMul, Nat.reduceSub, Nat.reduceLeDiff, reduceIte, reduceCtorEq, Try.results100]
      repeat refine gA ?_
      refine ⟨fun hc => ?_, fun hc => ?_⟩
      · replace hr := ifP1 hr hc
        obtain ⟨hg8, hr⟩ := of_guard1 hr
        obtain ⟨v1, hv1, hr⟩ := of_bind1 hr
        obtain ⟨hg9, hr⟩ := of_guard1 hr
        obtain ⟨v2, hv2, hr⟩ := of_bind1 hr
        try simp only [hv1, hv2, Option.getD_some, Option.isSome_some, true_and, and_assoc]
        repeat (first | refine gG hg9 ?_ | refine gA ?_ | refine gB ?_)
        refine ⟨fun hc => ?_, fun hc => ?_⟩
        · replace hr := ifP1 hr hc
          obtain ⟨hg6, hr⟩ := of_guard1 hr
          obtain ⟨hg7, hr⟩ := of_guard1 hr
          obtain ⟨v3, hv3, hr⟩ := of_bind1 hr
          obtain ⟨v4, hv4, hr⟩ := of_bind1 hr
          obtain ⟨v5, hv5, hr⟩ := of_bind1 hr
          try simp only [hv3, hv4, hv5, Option.getD_some, Option.isSome_some, true_and, and_assoc]
          repeat (first | refine gA ?_ | refine gB ?_)
          refine ⟨fun hc => ?_, fun hc => ?_⟩
          · replace hr := ifP1 hr hc
            repeat refine gA ?_
            have hr := of_out0 hr
            obtain rfl := Option.some.inj hr
            (simp (maxDischargeDepth := 8) [go_sem])
          · replace hr := ifN1 hr hc
            repeat refine gA ?_
            refine S.sees [0, 1, 20, 21, 22] [] [] ?_ hr
            (simp (maxDischargeDepth := 8) [go_sem])
        · replace hr := ifN1 hr hc
          repeat refine gA ?_
          refine ⟨fun hc => ?_, fun hc => ?_⟩
          · replace hr := ifP1 hr hc
            repeat refine gA ?_
            have hr := of_out0 hr
            obtain rfl := Option.some.inj hr
            (simp (maxDischargeDepth := 8) [go_sem])
          · replace hr := ifN1 hr hc
            repeat refine gA ?_
            refine S.sees [0, 1, 20, 21, 22] [] [] ?_ hr
            (simp (maxDischargeDepth := 8) [go_sem])
      · replace hr := ifN1 hr hc
        repeat refine gA ?_
        have hr := of_out0 hr
        obtain ⟨v10, hv10, hr⟩ := of_bind0 hr
        obtain ⟨v11, hv11, hr⟩ := of_bind0 hr
        obtain ⟨v12, hv12, hr⟩ := of_bind0 hr
        try simp only [hv10, hv11, hv12, Option.getD_some, Option.isSome_some, true_and, and_assoc]
        repeat refine gA ?_
        refine S.sees [10, 11, 85, 86, 87] [] [(79, 79), (81, 81), (85, 85)] ?_ (Stop.iter S (fun s2 => ⟨[(10, .c (.own 79)), (11, .c (.own 81)), (85, .c (.own 85)), (86, .c (.d (.int .i64 (v12.length : Int)))), (87, .c (.d (.int .i64 s2)))], [], [(79, .shared (encF 2 d_II v10)), (81, .shared (encF 2 d_II v11)), (85, .owned (encF 2 d_II v12))]⟩) (b100_2 v10 v11 v12) (fun q => q = r) hr rfl ?_)
        · (simp (maxDischargeDepth := 8) [go_sem])
        · intro s2 hr
          unfold b100_2 at hr
          refine S.goB [] 1000 ?_
          simp (maxSteps := 10000000) only [go_sem, tb100_90, T90, tb100_91, T91, tb100_94, T94, tb100_123, T123, tb100_140, T140, tb100_148, T148, tb100_149, T149, T100, Option.map_some, Int.reduceToNat, Nat.reduceEqDiff, Nat.reduceLT, Nat.reduceAdd, Nat.reduceMul, Nat.reduceSub, Nat.reduceLeDiff, reduceIte, reduceCtorEq, Try.results100]
          repeat refine gA ?_
          refine ⟨fun hc => ?_, fun hc => ?_⟩
          · replace hr := ifP1 hr hc
            obtain ⟨hg15, hr⟩ := of_guard1 hr
            obtain ⟨v13, hv13, hr⟩ := of_bind1 hr
            obtain ⟨v14, hv14, hr⟩ := of_bind1 hr
            try simp only [hv13, hv14, Option.getD_some, Option.isSome_some, true_and, and_assoc]
            repeat refine gA ?_
            refine ⟨fun hc => ?_, fun hc => ?_⟩
            · replace hr := ifP1 hr hc
              repeat refine gA ?_
              have hr := of_out0 hr
              obtain rfl := Option.some.inj hr
              (simp (maxDischargeDepth := 8) [go_sem])
            · replace hr := ifN1 hr hc
              repeat refine gA ?_
              refine S.sees [10, 11, 85, 86, 87] [] [(79, 79), (81, 81), (85, 85)] ?_ hr
              (simp (maxDischargeDepth := 8) [go_sem])
          · replace hr := ifN1 hr hc
            repeat refine gA ?_
            have hr := of_out0 hr
            repeat refine gA ?_
            obtain rfl := Option.some.inj hr
            (simp (maxDischargeDepth := 8) [go_sem])
theorem f100 : FnFact Try.prog 100 T100.sp := ⟨⟨Try.f100, Try.func100, by decide, rfl⟩, v100⟩

/- martensite/heat.CheckSetup -/
def b24_1 (a0_3 : List ((List (Int × Int)))) : ((List (Int × Int)) × Int) → Ctl ((List (Int × Int)) × Int) (Int × Int) := fun s1 =>
  if (decide (s1.2 < (a0_3.length : Int))) = true then
   if 0 ≤ s1.2 ∧ s1.2 < (a0_3.length : Int) then
    bindC (r100 (a0_3.getD s1.2.toNat default) s1.1) fun v3 =>
     if (v3 != 0) = true then
      .out (some (s1.2, v3))
      else .next ((a0_3.getD s1.2.toNat default), IntKind.i64.wrap (s1.2 + 1))
    else .out none
   else .out (some (0, 0))
def r24 (a0_0 : Int) (a0_1 : Int) (a0_2 : List (Int × Int)) (a0_3 : List ((List (Int × Int)))) : Option (Int × Int) :=
  (r90 a0_0 1 12).bind fun v1 =>
   if (!(!v1)) = true → (r90 a0_1 0 500).isSome = true then
    if ((!v1) || (!((r90 a0_1 0 500).getD default))) = true then
     some (0, 2)
     else (r99 a0_2).bind fun v2 =>
      if (v2.2 != 0) = true then
       some (v2.1, v2.2)
       else if (decide ((a0_3.length : Int) > 4)) = true then
        some (0, 8)
        else iterC (b24_1 a0_3) 1000000000 ([], 0)
    else none
def T24 : TSpec (Int × Int × (List (Int × Int)) × (List ((List (Int × Int))))) where
  enc x := [.agg [.int .i64 x.1, .int .i64 x.2.1, encF 2 d_II x.2.2.1, encF 1 d_LIIE x.2.2.2]]
  dec a := (dInt (aCell a 0 0), dInt (aCell a 0 1), decF g_II (aCell a 0 2), decF g_LIIE (aCell a 0 3))
  pre x := (r24 x.1 x.2.1 x.2.2.1 x.2.2.2).isSome = true
  res x := [.c (.d (.int .i64 (((r24 x.1 x.2.1 x.2.2.1 x.2.2.2).getD default).1))), .c (.d (.int .i64 (((r24 x.1 x.2.1 x.2.2.1 x.2.2.2).getD default).2)))]
  al := false
def tb24 : Fns := lk [(90, T90.sp), (99, T99.sp), (100, T100.sp)]
theorem tb24_ok : FnsOk Try.prog tb24 := .cons f90 (.cons f99 (.cons f100 (FnsOk.nil)))
theorem tb24_90 : tb24 90 = some T90.sp := rfl
theorem tb24_99 : tb24 99 = some T99.sp := rfl
theorem tb24_100 : tb24 100 = some T100.sp := rfl
theorem v24 : Valid Try.prog 24 T24.sp := by
  refine valid_t (fn := Try.f24) (n := 51) ty_ok tb24_ok Try.func24 rfl Try.ntmps24 ?_
  rintro ⟨a0_0, a0_1, a0_2, a0_3⟩ hx
  obtain ⟨r, hr⟩ := Option.isSome_iff_exists.1 (show (r24 a0_0 a0_1 a0_2 a0_3).isSome = true from hx)
  have hres : T24.res (a0_0, a0_1, a0_2, a0_3) = [.c (.d (.int .i64 r.1)), .c (.d (.int .i64 r.2))] := by simp only [T24, hr, Option.getD_some]
  refine ⟨Nat.le_of_ble_eq_true rfl, fun stop S => ?_⟩
  rw [hres] at S
  unfold r24 at hr
  refine S.goB [] 1000 ?_
  simp (maxSteps := 10000000) only [go_sem, tb24_90, T90, tb24_99, T99, tb24_100, T100, T24, Option.map_some, Int.reduceToNat, Nat.reduceEqDiff, Nat.reduceLT, Nat.reduceAdd, Nat.reduceMul, Nat.reduceSub, Nat.reduceLeDiff, reduceIte, reduceCtorEq, Try.results24]
  obtain ⟨v1, hv1, hr⟩ := of_bind0 hr
  obtain ⟨hg5, hr⟩ := of_guard0 hr
  try simp only [hv1, Option.getD_some, Option.isSome_some, true_and, and_assoc]
  repeat (first | refine gG hg5 ?_ | refine gA ?_ | refine gB ?_)
  refine ⟨fun hc => ?_, fun hc => ?_⟩
  · replace hr := ifP hr hc
    repeat refine gA ?_
    obtain rfl := Option.some.inj hr
    (simp (maxDischargeDepth := 8) [go_sem])
  · replace hr := ifN hr hc
    obtain ⟨v2, hv2, hr⟩ := of_bind0 hr
    try simp only [hv2, Option.getD_some, Option.isSome_some, true_and, and_assoc]
    repeat refine gA ?_
    refine ⟨fun hc => ?_, fun hc => ?_⟩
    · replace hr := ifP hr hc
      repeat refine gA ?_
      obtain rfl := Option.some.inj hr
      (simp (maxDischargeDepth := 8) [go_sem])
    · replace hr := ifN hr hc
      repeat refine gA ?_
      refine ⟨fun hc => ?_, fun hc => ?_⟩
      · replace hr := ifP hr hc
        repeat refine gA ?_
        obtain rfl := Option.some.inj hr
        (simp (maxDischargeDepth := 8) [go_sem])
      · replace hr := ifN hr hc
        repeat refine gA ?_
        refine S.sees [6, 35, 36, 37] [] [] ?_ (Stop.iter S (fun s1 => ⟨[(6, .c (.d (encF 2 d_II s1.1))), (35, .c (.d (encF 1 d_LIIE a0_3))), (36, .c (.d (.int .i64 (a0_3.length : Int)))), (37, .c (.d (.int .i64 s1.2)))], [], []⟩) (b24_1 a0_3) (fun q => q = r) hr rfl ?_)
        · (simp (maxDischargeDepth := 8) [go_sem])
        · intro s1 hr
          unfold b24_1 at hr
          refine S.goB [] 1000 ?_
          simp (maxSteps := 10000000) only [go_sem, tb24_90, T90, tb24_99, T99, tb24_100, T100, T24, Option.map_some, Int.reduceToNat, Nat.reduceEqDiff, Nat.reduceLT, Nat.reduceAdd, Nat.reduceMul, Nat.reduceSub, Nat.reduceLeDiff, reduceIte, reduceCtorEq, Try.results24]
          repeat refine gA ?_
          refine ⟨fun hc => ?_, fun hc => ?_⟩
          · replace hr := ifP1 hr hc
            obtain ⟨hg4, hr⟩ := of_guard1 hr
            obtain ⟨v3, hv3, hr⟩ := of_bind1 hr
            try simp only [hv3, Option.getD_some, Option.isSome_some, true_and, and_assoc]
            repeat refine gA ?_
            refine ⟨fun hc => ?_, fun hc => ?_⟩
            · replace hr := ifP1 hr hc
              repeat refine gA ?_
              have hr := of_out0 hr
              obtain rfl := Option.some.inj hr
              (simp (maxDischargeDepth := 8) [go_sem])
            · replace hr := ifN1 hr hc
              repeat refine gA ?_
              refine S.sees [6, 35, 36, 37] [] [] ?_ hr
              (simp (maxDischargeDepth := 8) [go_sem])
          · replace hr := ifN1 hr hc
            repeat refine gA ?_
            have hr := of_out0 hr
            repeat refine gA ?_
            obtain rfl := Option.some.inj hr
            (simp (maxDischargeDepth := 8) [go_sem])
theorem f24 : FnFact Try.prog 24 T24.sp := ⟨⟨Try.f24, Try.func24, by decide, rfl⟩, v24⟩

/- martensite/heat.pairs -/
def b150_1 (a0 : List (Int × Int)) : ((List (Int × Int)) × Int) → Ctl ((List (Int × Int)) × Int) ((List (Int × Int))) := fun s1 =>
  if (decide (s1.2 < (a0.length : Int))) = true then
   if 0 ≤ s1.2 ∧ s1.2 < (a0.length : Int) then
    if (s1.1.length + 1) * 16 ≤ 140737488355328 ∧ s1.1.length + 1 ≤ 9223372036854775807 then
     .next (s1.1 ++ [((a0.getD s1.2.toNat default).1, (a0.getD s1.2.toNat default).2)], IntKind.i64.wrap (s1.2 + 1))
     else .out none
    else .out none
   else .out (some s1.1)
def r150 (a0 : List (Int × Int)) : Option ((List (Int × Int))) :=
  iterC (b150_1 a0) 1000000000 ([], 0)
def T150 : TSpec ((List (Int × Int))) where
  enc x := [.c (encF 2 d_II x)]
  dec a := decF g_II (aCell a 0 0)
  pre x := (r150 x).isSome = true
  res x := [.c (.own (encF 2 d_II ((r150 x).getD default)))]
  al := false
def tb150 : Fns := lk []
theorem tb150_ok : FnsOk Try.prog tb150 := FnsOk.nil
theorem v150 : Valid Try.prog 150 T150.sp := by
  refine valid_t (fn := Try.f150) (n := 22) ty_ok tb150_ok Try.func150 rfl Try.ntmps150 ?_
  rintro a0 hx
  obtain ⟨r, hr⟩ := Option.isSome_iff_exists.1 (show (r150 a0).isSome = true from hx)
  have hres : T150.res a0 = [.c (.own (encF 2 d_II r))] := by simp only [T150, hr, Option.getD_some]
  refine ⟨Nat.le_of_ble_eq_true rfl, fun stop S => ?_⟩
  rw [hres] at S
  unfold r150 at hr
  refine S.goB [] 1000 ?_
  simp (maxSteps := 10000000) only [go_sem, T150, Option.map_some, Int.reduceToNat, Nat.reduceEqDiff, Nat.reduceLT, Nat.reduceAdd, Nat.reduceMul, Nat.reduceSub, Nat.reduceLeDiff, reduceIte, reduceCtorEq, Try.results150]
  repeat refine gA ?_
  refine S.own0 3 1000300 2 rfl rfl ?_
  refine S.sees [3, 6, 7, 8] [] [(1000300, 1000300)] ?_ (Stop.iter S (fun s1 => ⟨[(3, .c (.own 1000300)), (6, .c (.d (encF 2 d_II a0))), (7, .c (.d (.int .i64 (a0.length : Int)))), (8, .c (.d (.int .i64 s1.2)))], [], [(1000300, .owned (encF 2 d_II s1.1))]⟩) (b150_1 a0) (fun q => q = r) hr rfl ?_)
  · (simp (maxDischargeDepth := 8) [go_sem])
  · intro s1 hr
    unfold b150_1 at hr
    refine S.goB [] 1000 ?_
    simp (maxSteps := 10000000) only [go_sem, T150, Option.map_some, Int.reduceToNat, Nat.reduceEqDiff, Nat.reduceLT, Nat.reduceAdd, Nat.reduceMul, Nat.reduceSub, Nat.reduceLeDiff, reduceIte, reduceCtorEq, Try.results150]
    repeat refine gA ?_
    refine ⟨fun hc => ?_, fun hc => ?_⟩
    · replace hr := ifP1 hr hc
      obtain ⟨hg1, hr⟩ := of_guard1 hr
      obtain ⟨hg2, hr⟩ := of_guard1 hr
      repeat refine gA ?_
      refine S.sees [3, 6, 7, 8] [] [(19, 1000300)] ?_ hr
      (simp (maxDischargeDepth := 8) [go_sem])
    · replace hr := ifN1 hr hc
      repeat refine gA ?_
      have hr := of_out0 hr
      repeat refine gA ?_
      obtain rfl := Option.some.inj hr
      (simp (maxDischargeDepth := 8) [go_sem])
theorem f150 : FnFact Try.prog 150 T150.sp := ⟨⟨Try.f150, Try.func150, by decide, rfl⟩, v150⟩
end Go.Proofs.Ytcbiiijnaeibhaa

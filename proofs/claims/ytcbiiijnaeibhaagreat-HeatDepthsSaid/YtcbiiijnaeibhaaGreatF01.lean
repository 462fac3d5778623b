/- Contracts of functions, written by wip/dec. -/
import Derived.Test.YtcbiiijnaeibhaaGreatF00
set_option linter.unusedVariables false
set_option linter.unusedSimpArgs false
set_option maxHeartbeats 4000000
set_option maxRecDepth 20000
namespace Go.Proofs.YtcbiiijnaeibhaaGreat
open Go.Abs
/- martensite/martensitelaw03.Setup -/
def r23 : Option (Int × Int × (List (Int × Int)) × (List ((List (Int × Int))))) :=
  some (3, 500, [(0, 300), (1000, 800), (3000, 1300)], [[(300, 0)], [(300, 0), (1300, 400)]])
def T23 : TSpec (Unit) where
  enc x := []
  dec a := ()
  pre x := (r23).isSome = true
  res x := [.agg [.d (.int .i64 (((r23).getD default).1)), .d (.int .i64 (((r23).getD default).2.1)), .own (encF 2 d_II (((r23).getD default).2.2.1)), .own (encF 1 d_LIIE (((r23).getD default).2.2.2))]]
  al := true
def tb23 : Fns := lk []
theorem tb23_ok : FnsOk Tryz.prog tb23 := FnsOk.nil
theorem v23 : Valid Tryz.prog 23 T23.sp := by
  refine valid_t (fn := Tryz.f23) (n := 12) ty_ok tb23_ok Tryz.func23 rfl Tryz.ntmps23 ?_
  intro _ hx
  obtain ⟨r, hr⟩ := Option.isSome_iff_exists.1 (show (r23).isSome = true from hx)
  have hres : T23.res () = [.agg [.d (.int .i64 r.1), .d (.int .i64 r.2.1), .own (encF 2 d_II r.2.2.1), .own (encF 1 d_LIIE r.2.2.2)]] := by simp only [T23, hr, Option.getD_some]
  refine ⟨Nat.le_of_ble_eq_true rfl, fun stop S => ?_⟩
  rw [hres] at S
  unfold r23 at hr
  refine S.goB [] 1000 ?_
  simp (maxSteps := 10000000) only [go_sem, T23, Option.map_some, Int.reduceToNat, Nat.reduceEqDiff, Nat.reduceLT, Nat.reduceAdd, Nat.reduceMul, Nat.reduceSub, Nat.reduceLeDiff, reduceIte, reduceCtorEq, Tryz.results23]
  repeat refine gA ?_
  obtain rfl := Option.some.inj hr
  (simp (maxDischargeDepth := 8) [go_sem])
theorem f23 : FnFact Tryz.prog 23 T23.sp := ⟨⟨Tryz.f23, Tryz.func23, by decide, rfl⟩, v23⟩

/- martensite/heat.within -/
def r57 (a0 : Int) (a1 : Int) (a2 : Int) : Option (Bool) :=
  some ((decide (a1 ≤ a0)) && (decide (a0 ≤ a2)))
def T57 : TSpec (Int × Int × Int) where
  enc x := [.c (.int .i64 x.1), .c (.int .i64 x.2.1), .c (.int .i64 x.2.2)]
  dec a := (dInt (aCell a 0 0), dInt (aCell a 1 0), dInt (aCell a 2 0))
  pre x := (r57 x.1 x.2.1 x.2.2).isSome = true
  res x := [.c (.d (.bool ((r57 x.1 x.2.1 x.2.2).getD default)))]
  al := false
def tb57 : Fns := lk []
theorem tb57_ok : FnsOk Tryz.prog tb57 := FnsOk.nil
theorem v57 : Valid Tryz.prog 57 T57.sp := by
  refine valid_t (fn := Tryz.f57) (n := 15) ty_ok tb57_ok Tryz.func57 rfl Tryz.ntmps57 ?_
  rintro ⟨a0, a1, a2⟩ hx
  obtain ⟨r, hr⟩ := Option.isSome_iff_exists.1 (show (r57 a0 a1 a2).isSome = true from hx)
  have hres : T57.res (a0, a1, a2) = [.c (.d (.bool r))] := by simp only [T57, hr, Option.getD_some]
  refine ⟨Nat.le_of_ble_eq_true rfl, fun stop S => ?_⟩
  rw [hres] at S
  unfold r57 at hr
  refine S.goB [] 1000 ?_
  simp (maxSteps := 10000000) only [go_sem, T57, Option.map_some, Int.reduceToNat, Nat.reduceEqDiff, Nat.reduceLT, Nat.reduceAdd, Nat.reduceMul, Nat.reduceSub, Nat.reduceLeDiff, reduceIte, reduceCtorEq, Tryz.results57]
  repeat (first | refine gA ?_ | refine gB ?_)
  obtain rfl := Option.some.inj hr
  (simp (maxDischargeDepth := 8) [go_sem])
theorem f57 : FnFact Tryz.prog 57 T57.sp := ⟨⟨Tryz.f57, Tryz.func57, by decide, rfl⟩, v57⟩

/- martensite/heat.unless -/
def r58 (a0 : Bool) (a1 : Int) : Option (Int) :=
  if a0 = true then
   some 0
   else some a1
def T58 : TSpec (Bool × Int) where
  enc x := [.c (.bool x.1), .c (.int .i64 x.2)]
  dec a := (dBool (aCell a 0 0), dInt (aCell a 1 0))
  pre x := (r58 x.1 x.2).isSome = true
  res x := [.c (.d (.int .i64 ((r58 x.1 x.2).getD default)))]
  al := false
def tb58 : Fns := lk []
theorem tb58_ok : FnsOk Tryz.prog tb58 := FnsOk.nil
theorem v58 : Valid Tryz.prog 58 T58.sp := by
  refine valid_t (fn := Tryz.f58) (n := 7) ty_ok tb58_ok Tryz.func58 rfl Tryz.ntmps58 ?_
  rintro ⟨a0, a1⟩ hx
  obtain ⟨r, hr⟩ := Option.isSome_iff_exists.1 (show (r58 a0 a1).isSome = true from hx)
  have hres : T58.res (a0, a1) = [.c (.d (.int .i64 r))] := by simp only [T58, hr, Option.getD_some]
  refine ⟨Nat.le_of_ble_eq_true rfl, fun stop S => ?_⟩
  rw [hres] at S
  unfold r58 at hr
  refine S.goB [] 1000 ?_
  simp (maxSteps := 10000000) only [go_sem, T58, Option.map_some, Int.reduceToNat, Nat.reduceEqDiff, Nat.reduceLT, Nat.reduceAdd, Nat.reduceMul, Nat.reduceSub, Nat.reduceLeDiff, reduceIte, reduceCtorEq, Tryz.results58]
  repeat refine gA ?_
  refine ⟨fun hc => ?_, fun hc => ?_⟩
  · replace hr := ifP hr hc
    repeat refine gA ?_
    obtain rfl := Option.some.inj hr
    (simp (maxDischargeDepth := 8) [go_sem])
  · replace hr := ifN hr hc
    repeat refine gA ?_
    obtain rfl := Option.some.inj hr
    (simp (maxDischargeDepth := 8) [go_sem])
theorem f58 : FnFact Tryz.prog 58 T58.sp := ⟨⟨Tryz.f58, Tryz.func58, by decide, rfl⟩, v58⟩

/- martensite/heat.first -/
def b32_1 (a0 : List (Int)) : (Int) → Ctl (Int) (Int) := fun s1 =>
  if (decide (s1 < (a0.length : Int))) = true then
   if 0 ≤ s1 ∧ s1 < (a0.length : Int) then
    if ((a0.getD s1.toNat default) != 0) = true then
     .out (some (a0.getD s1.toNat default))
     else .next (IntKind.i64.wrap (s1 + 1))
    else .out none
   else .out (some 0)
def r32 (a0 : List (Int)) : Option (Int) :=
  iterC (b32_1 a0) 1000000000 0
def T32 : TSpec ((List (Int))) where
  enc x := [.c (encF 1 d_I x)]
  dec a := decF g_I (aCell a 0 0)
  pre x := (r32 x).isSome = true
  res x := [.c (.d (.int .i64 ((r32 x).getD default)))]
  al := false
def tb32 : Fns := lk []
theorem tb32_ok : FnsOk Tryz.prog tb32 := FnsOk.nil
theorem v32 : Valid Tryz.prog 32 T32.sp := by
  refine valid_t (fn := Tryz.f32) (n := 15) ty_ok tb32_ok Tryz.func32 rfl Tryz.ntmps32 ?_
  rintro a0 hx
  obtain ⟨r, hr⟩ := Option.isSome_iff_exists.1 (show (r32 a0).isSome = true from hx)
  have hres : T32.res a0 = [.c (.d (.int .i64 r))] := by simp only [T32, hr, Option.getD_some]
  refine ⟨Nat.le_of_ble_eq_true rfl, fun stop S => ?_⟩
  rw [hres] at S
  unfold r32 at hr
  refine S.goB [] 1000 ?_
  simp (maxSteps := 10000000) only [go_sem, T32, Option.map_some, Int.reduceToNat, Nat.reduceEqDiff, Nat.reduceLT, Nat.reduceAdd, Nat.reduceMul, Nat.reduceSub, Nat.reduceLeDiff, reduceIte, reduceCtorEq, Tryz.results32]
  repeat refine gA ?_
  refine S.sees [5, 6, 7] [] [] ?_ (Stop.iter S (fun s1 => ⟨[(5, .c (.d (encF 1 d_I a0))), (6, .c (.d (.int .i64 (a0.length : Int)))), (7, .c (.d (.int .i64 s1)))], [], []⟩) (b32_1 a0) (fun q => q = r) hr rfl ?_)
  · (simp (maxDischargeDepth := 8) [go_sem])
  · intro s1 hr
    unfold b32_1 at hr
    refine S.goB [] 1000 ?_
    simp (maxSteps := 10000000) only [go_sem, T32, Option.map_some, Int.reduceToNat, Nat.reduceEqDiff, Nat.reduceLT, Nat.reduceAdd, Nat.reduceMul, Nat.reduceSub, Nat.reduceLeDiff, reduceIte, reduceCtorEq, Tryz.results32]
    repeat refine gA ?_
    refine ⟨fun hc => ?_, fun hc => ?_⟩
    · replace hr := ifP1 hr hc
      obtain ⟨hg1, hr⟩ := of_guard1 hr
      repeat refine gA ?_
      refine ⟨fun hc => ?_, fun hc => ?_⟩
      · replace hr := ifP1 hr hc
        repeat refine gA ?_
        have hr := of_out0 hr
        obtain rfl := Option.some.inj hr
        (simp (maxDischargeDepth := 8) [go_sem])
      · replace hr := ifN1 hr hc
        repeat refine gA ?_
        refine S.sees [5, 6, 7] [] [] ?_ hr
        (simp (maxDischargeDepth := 8) [go_sem])
    · replace hr := ifN1 hr hc
      repeat refine gA ?_
      have hr := of_out0 hr
      repeat refine gA ?_
      obtain rfl := Option.some.inj hr
      (simp (maxDischargeDepth := 8) [go_sem])
theorem f32 : FnFact Tryz.prog 32 T32.sp := ⟨⟨Tryz.f32, Tryz.func32, by decide, rfl⟩, v32⟩

/- martensite/heat.isKelvin -/
def r64 (a0 : Int) : Option (Bool) :=
  (r57 a0 200 3000).bind fun v1 =>
   some v1
def T64 : TSpec (Int) where
  enc x := [.c (.int .i64 x)]
  dec a := dInt (aCell a 0 0)
  pre x := (r64 x).isSome = true
  res x := [.c (.d (.bool ((r64 x).getD default)))]
  al := false
def tb64 : Fns := lk [(57, T57.sp)]
theorem tb64_ok : FnsOk Tryz.prog tb64 := .cons f57 (FnsOk.nil)
theorem tb64_57 : tb64 57 = some T57.sp := rfl
theorem v64 : Valid Tryz.prog 64 T64.sp := by
  refine valid_t (fn := Tryz.f64) (n := 5) ty_ok tb64_ok Tryz.func64 rfl Tryz.ntmps64 ?_
  rintro a0 hx
  obtain ⟨r, hr⟩ := Option.isSome_iff_exists.1 (show (r64 a0).isSome = true from hx)
  have hres : T64.res a0 = [.c (.d (.bool r))] := by simp only [T64, hr, Option.getD_some]
  refine ⟨Nat.le_of_ble_eq_true rfl, fun stop S => ?_⟩
  rw [hres] at S
  unfold r64 at hr
  refine S.goB [] 1000 ?_
  simp (maxSteps := 10000000) only [go_sem, tb64_57, T57, T64, Option.map_some, Int.reduceToNat, Nat.reduceEqDiff, Nat.reduceLT, Nat.reduceAdd, Nat.reduceMul, Nat.reduceSub, Nat.reduceLeDiff, reduceIte, reduceCtorEq, Tryz.results64]
  obtain ⟨v1, hv1, hr⟩ := of_bind0 hr
  try simp only [hv1, Option.getD_some, Option.isSome_some, true_and, and_assoc]
  repeat refine gA ?_
  obtain rfl := Option.some.inj hr
  (simp (maxDischargeDepth := 8) [go_sem])
theorem f64 : FnFact Tryz.prog 64 T64.sp := ⟨⟨Tryz.f64, Tryz.func64, by decide, rfl⟩, v64⟩

/- martensite/heat.knotsErr -/
def b101_1 (a0 : List (Int × Int)) : (Int) → Ctl (Int) (Int × Int) := fun s1 =>
  if (decide (s1 < (a0.length : Int))) = true then
   if 0 ≤ s1 ∧ s1 < (a0.length : Int) then
    bindC (r57 ((a0.getD s1.toNat default).1) 0 1000000) fun v4 =>
     if v4 = true → (r64 ((a0.getD s1.toNat default).2)).isSome = true then
      bindC (r58 (v4 && ((r64 ((a0.getD s1.toNat default).2)).getD default)) 2) fun v5 =>
       if ((v5 == 0) && (decide (s1 > 0))) = true then
        if 0 ≤ IntKind.i64.wrap (s1 - 1) ∧ IntKind.i64.wrap (s1 - 1) < (a0.length : Int) then
         if 0 ≤ IntKind.i64.wrap (s1 - 1) ∧ IntKind.i64.wrap (s1 - 1) < (a0.length : Int) then
          bindC (r58 ((decide ((IntKind.i64.wrap (((a0.getD s1.toNat default).1) - ((a0.getD (IntKind.i64.wrap (s1 - 1)).toNat default).1))) > 0)) && (decide ((IntKind.i64.wrap (((a0.getD s1.toNat default).2) - ((a0.getD (IntKind.i64.wrap (s1 - 1)).toNat default).2))) > 0))) 9) fun v6 =>
           bindC (r58 (decide ((IntKind.i64.wrap (((a0.getD s1.toNat default).2) - ((a0.getD (IntKind.i64.wrap (s1 - 1)).toNat default).2))) ≤ (IntKind.i64.wrap (((a0.getD s1.toNat default).1) - ((a0.getD (IntKind.i64.wrap (s1 - 1)).toNat default).1))))) 22) fun v7 =>
            bindC (r32 [v6, v7]) fun v8 =>
             if (v8 != 0) = true then
              .out (some (s1, v8))
              else .next (IntKind.i64.wrap (s1 + 1))
          else .out none
         else .out none
        else if (v5 != 0) = true then
         .out (some (s1, v5))
         else .next (IntKind.i64.wrap (s1 + 1))
      else .out none
    else .out none
   else .out (some (0, 0))
def r101 (a0 : List (Int × Int)) : Option (Int × Int) :=
  (r58 (decide ((a0.length : Int) ≥ 2)) 10).bind fun v1 =>
   (r58 (decide ((a0.length : Int) ≤ 8)) 8).bind fun v2 =>
    (r32 [v1, v2]).bind fun v3 =>
     if (v3 != 0) = true then
      some (0, v3)
      else iterC (b101_1 a0) 1000000000 0
def T101 : TSpec ((List (Int × Int))) where
  enc x := [.c (encF 2 d_II x)]
  dec a := decF g_II (aCell a 0 0)
  pre x := (r101 x).isSome = true
  res x := [.c (.d (.int .i64 (((r101 x).getD default).1))), .c (.d (.int .i64 (((r101 x).getD default).2)))]
  al := false
def tb101 : Fns := lk [(32, T32.sp), (57, T57.sp), (58, T58.sp), (64, T64.sp)]
theorem tb101_ok : FnsOk Tryz.prog tb101 := .cons f32 (.cons f57 (.cons f58 (.cons f64 (FnsOk.nil))))
theorem tb101_32 : tb101 32 = some T32.sp := rfl
theorem tb101_57 : tb101 57 = some T57.sp := rfl
theorem tb101_58 : tb101 58 = some T58.sp := rfl
theorem tb101_64 : tb101 64 = some T64.sp := rfl
theorem v101 : Valid Tryz.prog 101 T101.sp := by
  refine valid_t (fn := Tryz.f101) (n := 81) ty_ok tb101_ok Tryz.func101 rfl Tryz.ntmps101 ?_
  rintro a0 hx
  obtain ⟨r, hr⟩ := Option.isSome_iff_exists.1 (show (r101 a0).isSome = true from hx)
  have hres : T101.res a0 = [.c (.d (.int .i64 r.1)), .c (.d (.int .i64 r.2))] := by simp only [T101, hr, Option.getD_some]
  refine ⟨Nat.le_of_ble_eq_true rfl, fun stop S => ?_⟩
  rw [hres] at S
  unfold r101 at hr
  refine S.goB [] 1000 ?_
  simp (maxSteps := 10000000) only [go_sem, tb101_32, T32, tb101_57, T57, tb101_58, T58, tb101_64, T64, T101, Option.map_some, Int.reduceToNat, Nat.reduceEqDiff, Nat.reduceLT, Nat.reduceAdd, Nat.reduceMul, Nat.reduceSub, Nat.reduceLeDiff, reduceIte, reduceCtorEq, Tryz.results101]
  obtain ⟨v1, hv1, hr⟩ := of_bind0 hr
  obtain ⟨v2, hv2, hr⟩ := of_bind0 hr
  obtain ⟨v3, hv3, hr⟩ := of_bind0 hr
  try simp only [hv1, hv2, hv3, Option.getD_some, Option.isSome_some, true_and, and_assoc]
  repeat refine gA ?_
  refine ⟨fun hc => ?_, fun hc => ?_⟩
  · replace hr := ifP hr hc
    repeat refine gA ?_
    obtain rfl := Option.some.inj hr
    (simp (maxDischargeDepth := 8) [go_sem])
  · replace hr := ifN hr hc
    repeat refine gA ?_
    refine S.sees [0, 23, 24, 25] [] [] ?_ (Stop.iter S (fun s1 => ⟨[(0, .c (.d (encF 2 d_II a0))), (23, .c (.d (encF 2 d_II a0))), (24, .c (.d (.int .i64 (a0.length : Int)))), (25, .c (.d (.int .i64 s1)))], [], []⟩) (b101_1 a0) (fun q => q = r) hr rfl ?_)
    · (simp (maxDischargeDepth := 8) [go_sem])
    · intro s1 hr
      unfold b101_1 at hr
      refine S.goB [] 1000 ?_
      simp (maxSteps := 10000000) only [go_sem, tb101_32, T32, tb101_57, T57, tb101_58, T58, tb101_64, T64, T101, Option.map_some, Int.reduceToNat, Nat.reduceEqDiff, Nat.reduceLT, Nat.reduceAdd, Nat.reduceMul, Nat.reduceSub, Nat.reduceLeDiff, reduceIte, reduceCtorEq, Tryz.results101]
      repeat refine gA ?_
      refine ⟨fun hc => ?_, fun hc => ?_⟩
      · replace hr := ifP1 hr hc
        obtain ⟨hg11, hr⟩ := of_guard1 hr
        obtain ⟨v4, hv4, hr⟩ := of_bind1 hr
        obtain ⟨hg12, hr⟩ := of_guard1 hr
        obtain ⟨v5, hv5, hr⟩ := of_bind1 hr
        try simp only [hv4, hv5, Option.getD_some, Option.isSome_some, true_and, and_assoc]
        repeat (first | refine gG hg12 ?_ | refine gA ?_ | refine gB ?_)
        refine ⟨fun hc => ?_, fun hc => ?_⟩
        · replace hr := ifP1 hr hc
          obtain ⟨hg9, hr⟩ := of_guard1 hr
          obtain ⟨hg10, hr⟩ := of_guard1 hr
          obtain ⟨v6, hv6, hr⟩ := of_bind1 hr
          obtain ⟨v7, hv7, hr⟩ := of_bind1 hr
          obtain ⟨v8, hv8, hr⟩ := of_bind1 hr
          try simp only [hv6, hv7, hv8, Option.getD_some, Option.isSome_some, true_and, and_assoc]
          repeat (first | refine gA ?_ | refine gB ?_)
          refine ⟨fun hc => ?_, fun hc => ?_⟩
          · replace hr := ifP1 hr hc
            repeat refine gA ?_
            have hr := of_out0 hr
            obtain rfl := Option.some.inj hr
            (simp (maxDischargeDepth := 8) [go_sem])
          · replace hr := ifN1 hr hc
            repeat refine gA ?_
            refine S.sees [0, 23, 24, 25] [] [] ?_ hr
            (simp (maxDischargeDepth := 8) [go_sem])
        · replace hr := ifN1 hr hc
          repeat refine gA ?_
          refine ⟨fun hc => ?_, fun hc => ?_⟩
          · replace hr := ifP1 hr hc
            repeat refine gA ?_
            have hr := of_out0 hr
            obtain rfl := Option.some.inj hr
            (simp (maxDischargeDepth := 8) [go_sem])
          · replace hr := ifN1 hr hc
            repeat refine gA ?_
            refine S.sees [0, 23, 24, 25] [] [] ?_ hr
            (simp (maxDischargeDepth := 8) [go_sem])
      · replace hr := ifN1 hr hc
        repeat refine gA ?_
        have hr := of_out0 hr
        repeat refine gA ?_
        obtain rfl := Option.some.inj hr
        (simp (maxDischargeDepth := 8) [go_sem])
theorem f101 : FnFact Tryz.prog 101 T101.sp := ⟨⟨Tryz.f101, Tryz.func101, by decide, rfl⟩, v101⟩

/- martensite/heat.points -/
def b92_1 (a0 : List (Int × Int)) : ((List (Int × Int)) × Int) → Ctl ((List (Int × Int)) × Int) ((List (Int × Int))) := fun s1 =>
  if (decide (s1.2 < (a0.length : Int))) = true then
   if 0 ≤ s1.2 ∧ s1.2 < (a0.length : Int) then
    if (s1.1.length + 1) * 16 ≤ 140737488355328 ∧ s1.1.length + 1 ≤ 9223372036854775807 then
     .next (s1.1 ++ [((a0.getD s1.2.toNat default).1, (a0.getD s1.2.toNat default).2)], IntKind.i64.wrap (s1.2 + 1))
     else .out none
    else .out none
   else .out (some s1.1)
def r92 (a0 : List (Int × Int)) : Option ((List (Int × Int))) :=
  iterC (b92_1 a0) 1000000000 ([], 0)
def T92 : TSpec ((List (Int × Int))) where
  enc x := [.c (encF 2 d_II x)]
  dec a := decF g_II (aCell a 0 0)
  pre x := (r92 x).isSome = true
  res x := [.c (.own (encF 2 d_II ((r92 x).getD default)))]
  al := false
def tb92 : Fns := lk []
theorem tb92_ok : FnsOk Tryz.prog tb92 := FnsOk.nil
theorem v92 : Valid Tryz.prog 92 T92.sp := by
  refine valid_t (fn := Tryz.f92) (n := 22) ty_ok tb92_ok Tryz.func92 rfl Tryz.ntmps92 ?_
  rintro a0 hx
  obtain ⟨r, hr⟩ := Option.isSome_iff_exists.1 (show (r92 a0).isSome = true from hx)
  have hres : T92.res a0 = [.c (.own (encF 2 d_II r))] := by simp only [T92, hr, Option.getD_some]
  refine ⟨Nat.le_of_ble_eq_true rfl, fun stop S => ?_⟩
  rw [hres] at S
  unfold r92 at hr
  refine S.goB [] 1000 ?_
  simp (maxSteps := 10000000) only [go_sem, T92, Option.map_some, Int.reduceToNat, Nat.reduceEqDiff, Nat.reduceLT, Nat.reduceAdd, Nat.reduceMul, Nat.reduceSub, Nat.reduceLeDiff, reduceIte, reduceCtorEq, Tryz.results92]
  repeat refine gA ?_
  refine S.own0 3 1000300 2 rfl rfl ?_
  refine S.sees [3, 6, 7, 8] [] [(1000300, 1000300)] ?_ (Stop.iter S (fun s1 => ⟨[(3, .c (.own 1000300)), (6, .c (.d (encF 2 d_II a0))), (7, .c (.d (.int .i64 (a0.length : Int)))), (8, .c (.d (.int .i64 s1.2)))], [], [(1000300, .owned (encF 2 d_II s1.1))]⟩) (b92_1 a0) (fun q => q = r) hr rfl ?_)
  · (simp (maxDischargeDepth := 8) [go_sem])
  · intro s1 hr
    unfold b92_1 at hr
    refine S.goB [] 1000 ?_
    simp (maxSteps := 10000000) only [go_sem, T92, Option.map_some, Int.reduceToNat, Nat.reduceEqDiff, Nat.reduceLT, Nat.reduceAdd, Nat.reduceMul, Nat.reduceSub, Nat.reduceLeDiff, reduceIte, reduceCtorEq, Tryz.results92]
    repeat refine gA ?_
    refine ⟨fun hc => ?_, fun hc => ?_⟩
    · replace hr := ifP1 hr hc
      obtain ⟨hg1, hr⟩ := of_guard1 hr
      obtain ⟨hg2, hr⟩ := of_guard1 hr
      repeat refine gA ?_
      refine S.sees [3, 6, 7, 8] [] [(19, 1000300)] ?_ hr
      (simp (maxDischargeDepth := 8) [go_sem])
    · replace hr := ifN1 hr hc
      repeat refine gA ?_
      have hr := of_out0 hr
      repeat refine gA ?_
      obtain rfl := Option.some.inj hr
      (simp (maxDischargeDepth := 8) [go_sem])
theorem f92 : FnFact Tryz.prog 92 T92.sp := ⟨⟨Tryz.f92, Tryz.func92, by decide, rfl⟩, v92⟩

/- slices.Grow on nil -/
theorem grow111w (w : World) (m : Nat) (h0 : 0 < m) (h1 : m ≤ 1000000) :
    Calls Tryz.prog 111 #[.slice none 0 0, .int .i64 (m : Int)] w fun e w' => ∃ v, e = .returned v ∧ ∃ cap c, v = .slice (some ⟨w.heap.size, 0, none⟩) 0 cap ∧ w' = w.drew.alloc (.cells c 152) ∧ c.size = cap * 2 := by
  have hbytes : Tryz.t152.bytes = 16 := rfl
  have hns : Builtin.nextslicecap m 0 = m := nextslicecap_zero h0
  go_enter Tryz.func111, Tryz.ntmps111
  go_wp2
  all_goals try (exfalso; simp only [hbytes, hns] at *; omega)
  all_goals go_ret
  refine ⟨_, rfl, _, rfl, _, rfl, ?_⟩
  have hcap := grownCap_ge w m 0 152
  simp only [grownCap] at hcap
  simp [Builtin.zeroCells]
  omega
theorem grow111z (w : World) :
    Calls Tryz.prog 111 #[.slice none 0 0, .int .i64 0] w fun e w' => ∃ v, e = .returned v ∧ v = .slice none 0 0 ∧ w' = w := by
  go_enter Tryz.func111, Tryz.ntmps111
  go_wp2
  all_goals go_ret
  exact ⟨_, rfl, rfl, rfl⟩
theorem grow111 (n : Int) (h0 : 0 ≤ n) (h1 : n ≤ 1000000) (w : World) : Calls Tryz.prog 111 #[.slice none 0 0, .int .i64 n] w fun e w' => ∃ v, e = .returned v ∧ GrowPost 2 w w' v := by
  obtain ⟨m, rfl⟩ : ∃ m : Nat, n = m := ⟨n.toNat, by omega⟩
  rcases Nat.eq_zero_or_pos m with rfl | hm
  · refine (grow111z w).mono ?_
    rintro e w' ⟨v, rfl, rfl, rfl⟩
    exact ⟨_, rfl, .refl _, Nat.le_refl _, fun _ _ => rfl, .inl rfl⟩
  · refine (grow111w w m hm (by omega)).mono ?_
    rintro e w' ⟨v, rfl, cap, c, rfl, rfl, hc⟩
    have hh : (w.drew.alloc (.cells c 152)).heap = w.heap.push (.cells c 152 (0, 0)) := rfl
    refine ⟨_, rfl, ⟨rfl, rfl, rfl⟩, by rw [hh, Array.size_push]; exact Nat.le_succ _, fun B hB => ?_, .inr ⟨_, cap, c, _, rfl, Nat.le_refl _, by rw [hh, Array.size_push]; exact Nat.lt_succ_self _, by rw [hh, Array.getElem?_push_size], hc⟩⟩
    rw [hh, Array.getElem?_push, if_neg (Nat.ne_of_lt hB)]

/- slices.Concat[[]martensite/heat.pair,martensite/heat.pair] -/
def b109_2 (a0 : List ((List (Int × Int)))) : (Int × (List (Int × Int))) → Ctl (Int × (List (Int × Int))) ((List (Int × Int))) := fun s2 =>
  if (decide (s2.1 < (a0.length : Int))) = true then
   if 0 ≤ s2.1 ∧ s2.1 < (a0.length : Int) then
    if (s2.2.length + (a0.getD s2.1.toNat default).length) * 16 ≤ 140737488355328 ∧ s2.2.length + (a0.getD s2.1.toNat default).length ≤ 9223372036854775807 then
     .next (IntKind.i64.wrap (s2.1 + 1), s2.2 ++ (a0.getD s2.1.toNat default))
     else .out none
    else .out none
   else .out (some s2.2)
def b109_1 (a0 : List ((List (Int × Int)))) : (Int × Int) → Ctl (Int × Int) ((List (Int × Int))) := fun s1 =>
  if (decide (s1.2 < (a0.length : Int))) = true then
   if 0 ≤ s1.2 ∧ s1.2 < (a0.length : Int) then
    if (decide ((IntKind.i64.wrap (s1.1 + ((a0.getD s1.2.toNat default).length : Int))) < 0)) = true then
     .out none
     else .next (IntKind.i64.wrap (s1.1 + ((a0.getD s1.2.toNat default).length : Int)), IntKind.i64.wrap (s1.2 + 1))
    else .out none
   else .out (if 0 ≤ s1.1 ∧ s1.1 ≤ 1000000 then
    iterC (b109_2 a0) 1000000000 (0, ([] : List (Int × Int)))
    else none)
def r109 (a0 : List ((List (Int × Int)))) : Option ((List (Int × Int))) :=
  iterC (b109_1 a0) 1000000000 (0, 0)
def T109 : TSpec ((List ((List (Int × Int))))) where
  enc x := [.c (encF 1 d_LIIE x)]
  dec a := decF g_LIIE (aCell a 0 0)
  pre x := (r109 x).isSome = true
  res x := [.c (.own (encF 2 d_II ((r109 x).getD default)))]
  al := false
def tb109 : Fns := lk []
theorem tb109_ok : FnsOk Tryz.prog tb109 := FnsOk.nil
theorem v109 : Valid Tryz.prog 109 T109.sp := by
  refine valid_t (fn := Tryz.f109) (n := 36) ty_ok tb109_ok Tryz.func109 rfl Tryz.ntmps109 ?_
  rintro a0 hx
  obtain ⟨r, hr⟩ := Option.isSome_iff_exists.1 (show (r109 a0).isSome = true from hx)
  have hres : T109.res a0 = [.c (.own (encF 2 d_II r))] := by simp only [T109, hr, Option.getD_some]
  refine ⟨Nat.le_of_ble_eq_true rfl, fun stop S => ?_⟩
  rw [hres] at S
  unfold r109 at hr
  refine S.goB [9] 1000 ?_
  simp (maxSteps := 10000000) only [go_sem, T109, Option.map_some, Int.reduceToNat, Nat.reduceEqDiff, Nat.reduceLT, Nat.reduceAdd, Nat.reduceMul, Nat.reduceSub, Nat.reduceLeDiff, reduceIte, reduceCtorEq, Tryz.results109]
  repeat refine gA ?_
  refine S.sees [0, 3, 9, 10, 11] [] [] ?_ (Stop.iter S (fun s1 => ⟨[(0, .c (.d (encF 1 d_LIIE a0))), (3, .c (.d (.int .i64 s1.1))), (9, .c (.d (encF 1 d_LIIE a0))), (10, .c (.d (.int .i64 (a0.length : Int)))), (11, .c (.d (.int .i64 s1.2)))], [], []⟩) (b109_1 a0) (fun q => q = r) hr rfl ?_)
  · (simp (maxDischargeDepth := 8) [go_sem])
  · intro s1 hr
    unfold b109_1 at hr
    refine S.goB [9] 1000 ?_
    simp (maxSteps := 10000000) only [go_sem, T109, Option.map_some, Int.reduceToNat, Nat.reduceEqDiff, Nat.reduceLT, Nat.reduceAdd, Nat.reduceMul, Nat.reduceSub, Nat.reduceLeDiff, reduceIte, reduceCtorEq, Tryz.results109]
    repeat refine gA ?_
    refine ⟨fun hc => ?_, fun hc => ?_⟩
    · replace hr := ifP1 hr hc
      obtain ⟨hg1, hr⟩ := of_guard1 hr
      repeat refine gA ?_
      refine ⟨fun hc => ?_, fun hc => ?_⟩
      · replace hr := ifP1 hr hc
        repeat refine gA ?_
        first | cases hr | exact hr.elim
      · replace hr := ifN1 hr hc
        repeat refine gA ?_
        refine S.sees [0, 3, 9, 10, 11] [] [] ?_ hr
        (simp (maxDischargeDepth := 8) [go_sem])
    · replace hr := ifN1 hr hc
      repeat refine gA ?_
      have hr := of_out0 hr
      repeat refine gA ?_
      obtain ⟨hg2, hr⟩ := of_guard0 hr
      repeat refine gA ?_
      refine S.callGrow 1 23 24 3000024 2 rfl rfl rfl rfl (by decide) Tryz.func111 (by decide) rfl (grow111 _ hg2.1 hg2.2) ?_
      simp (maxSteps := 10000000) only [go_sem, T109, Option.map_some, Int.reduceToNat, Nat.reduceEqDiff, Nat.reduceLT, Nat.reduceAdd, Nat.reduceMul, Nat.reduceSub, Nat.reduceLeDiff, reduceIte, reduceCtorEq, Tryz.results109]
      repeat refine gA ?_
      refine S.goB [9] 1000 ?_
      simp (maxSteps := 10000000) only [go_sem, T109, Option.map_some, Int.reduceToNat, Nat.reduceEqDiff, Nat.reduceLT, Nat.reduceAdd, Nat.reduceMul, Nat.reduceSub, Nat.reduceLeDiff, reduceIte, reduceCtorEq, Tryz.results109]
      repeat refine gA ?_
      repeat refine gA ?_
      refine S.sees [6, 25, 26, 27] [] [(3000024, 3000024)] ?_ (Stop.iter S (fun s2 => ⟨[(6, .c (.own 3000024)), (25, .c (.d (encF 1 d_LIIE a0))), (26, .c (.d (.int .i64 (a0.length : Int)))), (27, .c (.d (.int .i64 s2.1)))], [], [(3000024, .owned (encF 2 d_II s2.2))]⟩) (b109_2 a0) (fun q => q = r) hr rfl ?_)
      · (simp (maxDischargeDepth := 8) [go_sem])
      · intro s2 hr
        unfold b109_2 at hr
        refine S.goB [9] 1000 ?_
        simp (maxSteps := 10000000) only [go_sem, T109, Option.map_some, Int.reduceToNat, Nat.reduceEqDiff, Nat.reduceLT, Nat.reduceAdd, Nat.reduceMul, Nat.reduceSub, Nat.reduceLeDiff, reduceIte, reduceCtorEq, Tryz.results109]
        repeat refine gA ?_
        refine ⟨fun hc => ?_, fun hc => ?_⟩
        · replace hr := ifP1 hr hc
          obtain ⟨hg3, hr⟩ := of_guard1 hr
          obtain ⟨hg4, hr⟩ := of_guard1 hr
          repeat refine gA ?_
          refine S.sees [6, 25, 26, 27] [] [(33, 3000024)] ?_ hr
          (simp (maxDischargeDepth := 8) [go_sem])
        · replace hr := ifN1 hr hc
          repeat refine gA ?_
          have hr := of_out0 hr
          repeat refine gA ?_
          obtain rfl := Option.some.inj hr
          (simp (maxDischargeDepth := 8) [go_sem])
theorem f109 : FnFact Tryz.prog 109 T109.sp := ⟨⟨Tryz.f109, Tryz.func109, by decide, rfl⟩, v109⟩

/- cmp.isNaN[int] -/
def r110 (a0 : Int) : Option (Bool) :=
  some (a0 != a0)
def T110 : TSpec (Int) where
  enc x := [.c (.int .i64 x)]
  dec a := dInt (aCell a 0 0)
  pre x := (r110 x).isSome = true
  res x := [.c (.d (.bool ((r110 x).getD default)))]
  al := false
def tb110 : Fns := lk []
theorem tb110_ok : FnsOk Tryz.prog tb110 := FnsOk.nil
theorem v110 : Valid Tryz.prog 110 T110.sp := by
  refine valid_t (fn := Tryz.f110) (n := 6) ty_ok tb110_ok Tryz.func110 rfl Tryz.ntmps110 ?_
  rintro a0 hx
  obtain ⟨r, hr⟩ := Option.isSome_iff_exists.1 (show (r110 a0).isSome = true from hx)
  have hres : T110.res a0 = [.c (.d (.bool r))] := by simp only [T110, hr, Option.getD_some]
  refine ⟨Nat.le_of_ble_eq_true rfl, fun stop S => ?_⟩
  rw [hres] at S
  unfold r110 at hr
  refine S.goB [] 1000 ?_
  simp (maxSteps := 10000000) only [go_sem, T110, Option.map_some, Int.reduceToNat, Nat.reduceEqDiff, Nat.reduceLT, Nat.reduceAdd, Nat.reduceMul, Nat.reduceSub, Nat.reduceLeDiff, reduceIte, reduceCtorEq, Tryz.results110]
  repeat refine gA ?_
  obtain rfl := Option.some.inj hr
  (simp (maxDischargeDepth := 8) [go_sem])
theorem f110 : FnFact Tryz.prog 110 T110.sp := ⟨⟨Tryz.f110, Tryz.func110, by decide, rfl⟩, v110⟩

/- cmp.Compare[int] -/
def r105 (a0 : Int) (a1 : Int) : Option (Int) :=
  (r110 a0).bind fun v1 =>
   (r110 a1).bind fun v2 =>
    if v1 = true then
     if v2 = true then
      some 0
      else some (-1)
     else if v2 = true then
      some 1
      else if (decide (a0 < a1)) = true then
       some (-1)
       else if (decide (a0 > a1)) = true then
        some 1
        else some 0
def T105 : TSpec (Int × Int) where
  enc x := [.c (.int .i64 x.1), .c (.int .i64 x.2)]
  dec a := (dInt (aCell a 0 0), dInt (aCell a 1 0))
  pre x := (r105 x.1 x.2).isSome = true
  res x := [.c (.d (.int .i64 ((r105 x.1 x.2).getD default)))]
  al := false
def tb105 : Fns := lk [(110, T110.sp)]
theorem tb105_ok : FnsOk Tryz.prog tb105 := .cons f110 (FnsOk.nil)
theorem tb105_110 : tb105 110 = some T110.sp := rfl
theorem v105 : Valid Tryz.prog 105 T105.sp := by
  refine valid_t (fn := Tryz.f105) (n := 20) ty_ok tb105_ok Tryz.func105 rfl Tryz.ntmps105 ?_
  rintro ⟨a0, a1⟩ hx
  obtain ⟨r, hr⟩ := Option.isSome_iff_exists.1 (show (r105 a0 a1).isSome = true from hx)
  have hres : T105.res (a0, a1) = [.c (.d (.int .i64 r))] := by simp only [T105, hr, Option.getD_some]
  refine ⟨Nat.le_of_ble_eq_true rfl, fun stop S => ?_⟩
  rw [hres] at S
  unfold r105 at hr
  refine S.goB [] 1000 ?_
  simp (maxSteps := 10000000) only [go_sem, tb105_110, T110, T105, Option.map_some, Int.reduceToNat, Nat.reduceEqDiff, Nat.reduceLT, Nat.reduceAdd, Nat.reduceMul, Nat.reduceSub, Nat.reduceLeDiff, reduceIte, reduceCtorEq, Tryz.results105]
  obtain ⟨v1, hv1, hr⟩ := of_bind0 hr
  obtain ⟨v2, hv2, hr⟩ := of_bind0 hr
  try simp only [hv1, hv2, Option.getD_some, Option.isSome_some, true_and, and_assoc]
  repeat refine gA ?_
  refine ⟨fun hc => ?_, fun hc => ?_⟩
  · replace hr := ifP hr hc
    repeat refine gA ?_
    refine ⟨fun hc => ?_, fun hc => ?_⟩
    · replace hr := ifP hr hc
      repeat refine gA ?_
      obtain rfl := Option.some.inj hr
      (simp (maxDischargeDepth := 8) [go_sem])
    · replace hr := ifN hr hc
      repeat refine gA ?_
      obtain rfl := Option.some.inj hr
      (simp (maxDischargeDepth := 8) [go_sem])
  · replace hr := ifN hr hc
    repeat refine gA ?_
    refine ⟨fun hc => ?_, fun hc => ?_⟩
    · replace hr := ifP hr hc
      repeat refine gA ?_
      obtain rfl := Option.some.inj hr
      (simp (maxDischargeDepth := 8) [go_sem])
    · replace hr := ifN hr hc
      repeat refine gA ?_
      refine ⟨fun hc => ?_, fun hc => ?_⟩
      · replace hr := ifP hr hc
        repeat refine gA ?_
        obtain rfl := Option.some.inj hr
        (simp (maxDischargeDepth := 8) [go_sem])
      · replace hr := ifN hr hc
        repeat refine gA ?_
        refine ⟨fun hc => ?_, fun hc => ?_⟩
        · replace hr := ifP hr hc
          repeat refine gA ?_
          obtain rfl := Option.some.inj hr
          (simp (maxDischargeDepth := 8) [go_sem])
        · replace hr := ifN hr hc
          repeat refine gA ?_
          obtain rfl := Option.some.inj hr
          (simp (maxDischargeDepth := 8) [go_sem])
theorem f105 : FnFact Tryz.prog 105 T105.sp := ⟨⟨Tryz.f105, Tryz.func105, by decide, rfl⟩, v105⟩

/- martensite/heat.between$1 -/
def r104 (a0_0 : Int) (a0_1 : Int) (a1_0 : Int) (a1_1 : Int) : Option (Int) :=
  (r105 (IntKind.i64.wrap (a0_0 * a1_1)) a1_0).bind fun v1 =>
   some v1
def T104 : TSpec (Int × Int × Int × Int) where
  enc x := [.agg [.int .i64 x.1, .int .i64 x.2.1], .agg [.int .i64 x.2.2.1, .int .i64 x.2.2.2]]
  dec a := (dInt (aCell a 0 0), dInt (aCell a 0 1), dInt (aCell a 1 0), dInt (aCell a 1 1))
  pre x := (r104 x.1 x.2.1 x.2.2.1 x.2.2.2).isSome = true
  res x := [.c (.d (.int .i64 ((r104 x.1 x.2.1 x.2.2.1 x.2.2.2).getD default)))]
  al := false
def tb104 : Fns := lk [(105, T105.sp)]
theorem tb104_ok : FnsOk Tryz.prog tb104 := .cons f105 (FnsOk.nil)
theorem tb104_105 : tb104 105 = some T105.sp := rfl
theorem v104 : Valid Tryz.prog 104 T104.sp := by
  refine valid_t (fn := Tryz.f104) (n := 13) ty_ok tb104_ok Tryz.func104 rfl Tryz.ntmps104 ?_
  rintro ⟨a0_0, a0_1, a1_0, a1_1⟩ hx
  obtain ⟨r, hr⟩ := Option.isSome_iff_exists.1 (show (r104 a0_0 a0_1 a1_0 a1_1).isSome = true from hx)
  have hres : T104.res (a0_0, a0_1, a1_0, a1_1) = [.c (.d (.int .i64 r))] := by simp only [T104, hr, Option.getD_some]
  refine ⟨Nat.le_of_ble_eq_true rfl, fun stop S => ?_⟩
  rw [hres] at S
  unfold r104 at hr
  refine S.goB [] 1000 ?_
  simp (maxSteps := 10000000) only [go_sem, tb104_105, T105, T104, Option.map_some, Int.reduceToNat, Nat.reduceEqDiff, Nat.reduceLT, Nat.reduceAdd, Nat.reduceMul, Nat.reduceSub, Nat.reduceLeDiff, reduceIte, reduceCtorEq, Tryz.results104]
  obtain ⟨v1, hv1, hr⟩ := of_bind0 hr
  try simp only [hv1, Option.getD_some, Option.isSome_some, true_and, and_assoc]
  repeat refine gA ?_
  obtain rfl := Option.some.inj hr
  (simp (maxDischargeDepth := 8) [go_sem])
theorem f104 : FnFact Tryz.prog 104 T104.sp := ⟨⟨Tryz.f104, Tryz.func104, by decide, rfl⟩, v104⟩

/- slices.BinarySearchFunc[[]martensite/heat.pair,martensite/heat.pair,martensite/heat.ratio] -/
def b103_1 (a0 : List (Int × Int)) (a1_0 : Int) (a1_1 : Int) : (Int × Int) → Ctl (Int × Int) (Int × Bool) := fun s1 =>
  if (decide (s1.1 < s1.2)) = true then
   if 0 ≤ IntKind.i64.wrap ((IntKind.u64.wrap (IntKind.i64.wrap (s1.1 + s1.2))) / 2 ^ 1) ∧ IntKind.i64.wrap ((IntKind.u64.wrap (IntKind.i64.wrap (s1.1 + s1.2))) / 2 ^ 1) < (a0.length : Int) then
    bindC (r104 ((a0.getD (IntKind.i64.wrap ((IntKind.u64.wrap (IntKind.i64.wrap (s1.1 + s1.2))) / 2 ^ 1)).toNat default).1) ((a0.getD (IntKind.i64.wrap ((IntKind.u64.wrap (IntKind.i64.wrap (s1.1 + s1.2))) / 2 ^ 1)).toNat default).2) a1_0 a1_1) fun v1 =>
     if (decide (v1 < 0)) = true then
      .next (IntKind.i64.wrap ((IntKind.i64.wrap ((IntKind.u64.wrap (IntKind.i64.wrap (s1.1 + s1.2))) / 2 ^ 1)) + 1), s1.2)
      else .next (s1.1, IntKind.i64.wrap ((IntKind.u64.wrap (IntKind.i64.wrap (s1.1 + s1.2))) / 2 ^ 1))
    else .out none
   else .out (if (decide (s1.1 < (a0.length : Int))) = true → 0 ≤ s1.1 ∧ s1.1 < (a0.length : Int) then
    if (decide (s1.1 < (a0.length : Int))) = true → (r104 ((a0.getD s1.1.toNat default).1) ((a0.getD s1.1.toNat default).2) a1_0 a1_1).isSome = true then
     some (s1.1, (decide (s1.1 < (a0.length : Int))) && (((r104 ((a0.getD s1.1.toNat default).1) ((a0.getD s1.1.toNat default).2) a1_0 a1_1).getD default) == 0))
     else none
    else none)
def r103 (a0 : List (Int × Int)) (a1_0 : Int) (a1_1 : Int) : Option (Int × Bool) :=
  iterC (b103_1 a0 a1_0 a1_1) 1000000000 (0, (a0.length : Int))
def T103 : TSpec ((List (Int × Int)) × Int × Int) where
  enc x := [.c (encF 2 d_II x.1), .agg [.int .i64 x.2.1, .int .i64 x.2.2], .clo 104 []]
  dec a := (decF g_II (aCell a 0 0), dInt (aCell a 1 0), dInt (aCell a 1 1))
  pre x := (r103 x.1 x.2.1 x.2.2).isSome = true
  res x := [.c (.d (.int .i64 (((r103 x.1 x.2.1 x.2.2).getD default).1))), .c (.d (.bool (((r103 x.1 x.2.1 x.2.2).getD default).2)))]
  al := false
def tb103 : Fns := lk [(104, T104.sp)]
theorem tb103_ok : FnsOk Tryz.prog tb103 := .cons f104 (FnsOk.nil)
theorem tb103_104 : tb103 104 = some T104.sp := rfl
theorem v103 : Valid Tryz.prog 103 T103.sp := by
  refine valid_t (fn := Tryz.f103) (n := 49) ty_ok tb103_ok Tryz.func103 rfl Tryz.ntmps103 ?_
  rintro ⟨a0, a1_0, a1_1⟩ hx
  obtain ⟨r, hr⟩ := Option.isSome_iff_exists.1 (show (r103 a0 a1_0 a1_1).isSome = true from hx)
  have hres : T103.res (a0, a1_0, a1_1) = [.c (.d (.int .i64 r.1)), .c (.d (.bool r.2))] := by simp only [T103, hr, Option.getD_some]
  refine ⟨Nat.le_of_ble_eq_true rfl, fun stop S => ?_⟩
  rw [hres] at S
  unfold r103 at hr
  refine S.goB [] 1000 ?_
  simp (maxSteps := 10000000) only [go_sem, tb103_104, T104, T103, Option.map_some, Int.reduceToNat, Nat.reduceEqDiff, Nat.reduceLT, Nat.reduceAdd, Nat.reduceMul, Nat.reduceSub, Nat.reduceLeDiff, reduceIte, reduceCtorEq, Tryz.results103]
  repeat refine gA ?_
  refine S.sees [0, 2, 4, 8, 9, 10] [(4, 4)] [] ?_ (Stop.iter S (fun s1 => ⟨[(0, .c (.d (encF 2 d_II a0))), (2, .c (.clo 104 [])), (4, .c (.ref 4 0)), (8, .c (.d (.int .i64 (a0.length : Int)))), (9, .c (.d (.int .i64 s1.1))), (10, .c (.d (.int .i64 s1.2)))], [(4, [.d (.int .i64 a1_0), .d (.int .i64 a1_1)])], []⟩) (b103_1 a0 a1_0 a1_1) (fun q => q = r) hr rfl ?_)
  · (simp (maxDischargeDepth := 8) [go_sem])
  · intro s1 hr
    unfold b103_1 at hr
    refine S.goB [] 1000 ?_
    simp (maxSteps := 10000000) only [go_sem, tb103_104, T104, T103, Option.map_some, Int.reduceToNat, Nat.reduceEqDiff, Nat.reduceLT, Nat.reduceAdd, Nat.reduceMul, Nat.reduceSub, Nat.reduceLeDiff, reduceIte, reduceCtorEq, Tryz.results103]
    repeat refine gA ?_
    refine ⟨fun hc => ?_, fun hc => ?_⟩
    · replace hr := ifP1 hr hc
      obtain ⟨hg2, hr⟩ := of_guard1 hr
      obtain ⟨v1, hv1, hr⟩ := of_bind1 hr
      try simp only [hv1, Option.getD_some, Option.isSome_some, true_and, and_assoc]
      repeat refine gA ?_
      refine ⟨fun hc => ?_, fun hc => ?_⟩
      · replace hr := ifP1 hr hc
        repeat refine gA ?_
        refine S.sees [0, 2, 4, 8, 9, 10] [(4, 4)] [] ?_ hr
        (simp (maxDischargeDepth := 8) [go_sem])
      · replace hr := ifN1 hr hc
        repeat refine gA ?_
        refine S.sees [0, 2, 4, 8, 9, 10] [(4, 4)] [] ?_ hr
        (simp (maxDischargeDepth := 8) [go_sem])
    · replace hr := ifN1 hr hc
      repeat refine gA ?_
      have hr := of_out0 hr
      obtain ⟨hg3, hr⟩ := of_guard0 hr
      obtain ⟨hg4, hr⟩ := of_guard0 hr
      repeat (first | refine gG hg3 ?_ | refine gG hg4 ?_ | refine gA ?_ | refine gB ?_)
      obtain rfl := Option.some.inj hr
      (simp (maxDischargeDepth := 8) [go_sem])
theorem f103 : FnFact Tryz.prog 103 T103.sp := ⟨⟨Tryz.f103, Tryz.func103, by decide, rfl⟩, v103⟩

/- martensite/heat.between -/
def r94 (a0 : List (Int × Int)) (a1_0 : Int) (a1_1 : Int) : Option (Int × Int) :=
  (r103 a0 a1_0 a1_1).bind fun v1 =>
   if ((a0.length : Int) == 0) = true then
    some (0, 1)
    else if (v1.1 == 0) = true then
     if 0 ≤ 0 ∧ 0 < (a0.length : Int) then
      some ((a0.getD 0 default).2, 1)
      else none
     else if (v1.1 == (a0.length : Int)) = true then
      if 0 ≤ IntKind.i64.wrap (v1.1 - 1) ∧ IntKind.i64.wrap (v1.1 - 1) < (a0.length : Int) then
       some ((a0.getD (IntKind.i64.wrap (v1.1 - 1)).toNat default).2, 1)
       else none
      else if 0 ≤ IntKind.i64.wrap (v1.1 - 1) ∧ IntKind.i64.wrap (v1.1 - 1) < (a0.length : Int) then
       if 0 ≤ v1.1 ∧ v1.1 < (a0.length : Int) then
        some (IntKind.i64.wrap ((IntKind.i64.wrap (((a0.getD (IntKind.i64.wrap (v1.1 - 1)).toNat default).2) * (IntKind.i64.wrap ((IntKind.i64.wrap (((a0.getD v1.1.toNat default).1) - ((a0.getD (IntKind.i64.wrap (v1.1 - 1)).toNat default).1))) * a1_1)))) + (IntKind.i64.wrap ((IntKind.i64.wrap (((a0.getD v1.1.toNat default).2) - ((a0.getD (IntKind.i64.wrap (v1.1 - 1)).toNat default).2))) * (IntKind.i64.wrap (a1_0 - (IntKind.i64.wrap (((a0.getD (IntKind.i64.wrap (v1.1 - 1)).toNat default).1) * a1_1))))))), IntKind.i64.wrap ((IntKind.i64.wrap (((a0.getD v1.1.toNat default).1) - ((a0.getD (IntKind.i64.wrap (v1.1 - 1)).toNat default).1))) * a1_1))
        else none
       else none
def T94 : TSpec ((List (Int × Int)) × Int × Int) where
  enc x := [.c (encF 2 d_II x.1), .agg [.int .i64 x.2.1, .int .i64 x.2.2]]
  dec a := (decF g_II (aCell a 0 0), dInt (aCell a 1 0), dInt (aCell a 1 1))
  pre x := (r94 x.1 x.2.1 x.2.2).isSome = true
  res x := [.agg [.d (.int .i64 (((r94 x.1 x.2.1 x.2.2).getD default).1)), .d (.int .i64 (((r94 x.1 x.2.1 x.2.2).getD default).2))]]
  al := false
def tb94 : Fns := lk [(103, T103.sp)]
theorem tb94_ok : FnsOk Tryz.prog tb94 := .cons f103 (FnsOk.nil)
theorem tb94_103 : tb94 103 = some T103.sp := rfl
theorem v94 : Valid Tryz.prog 94 T94.sp := by
  refine valid_t (fn := Tryz.f94) (n := 79) ty_ok tb94_ok Tryz.func94 rfl Tryz.ntmps94 ?_
  rintro ⟨a0, a1_0, a1_1⟩ hx
  obtain ⟨r, hr⟩ := Option.isSome_iff_exists.1 (show (r94 a0 a1_0 a1_1).isSome = true from hx)
  have hres : T94.res (a0, a1_0, a1_1) = [.agg [.d (.int .i64 r.1), .d (.int .i64 r.2)]] := by simp only [T94, hr, Option.getD_some]
  refine ⟨Nat.le_of_ble_eq_true rfl, fun stop S => ?_⟩
  rw [hres] at S
  unfold r94 at hr
  refine S.goB [] 1000 ?_
  simp (maxSteps := 10000000) only [go_sem, tb94_103, T103, T94, Option.map_some, Int.reduceToNat, Nat.reduceEqDiff, Nat.reduceLT, Nat.reduceAdd, Nat.reduceMul, Nat.reduceSub, Nat.reduceLeDiff, reduceIte, reduceCtorEq, Tryz.results94]
  obtain ⟨v1, hv1, hr⟩ := of_bind0 hr
  try simp only [hv1, Option.getD_some, Option.isSome_some, true_and, and_assoc]
  repeat refine gA ?_
  refine ⟨fun hc => ?_, fun hc => ?_⟩
  · replace hr := ifP hr hc
    repeat refine gA ?_
    obtain rfl := Option.some.inj hr
    (simp (maxDischargeDepth := 8) [go_sem])
  · replace hr := ifN hr hc
    repeat refine gA ?_
    refine ⟨fun hc => ?_, fun hc => ?_⟩
    · replace hr := ifP hr hc
      obtain ⟨hg2, hr⟩ := of_guard0 hr
      repeat refine gA ?_
      obtain rfl := Option.some.inj hr
      (simp (maxDischargeDepth := 8) [go_sem])
    · replace hr := ifN hr hc
      repeat refine gA ?_
      refine ⟨fun hc => ?_, fun hc => ?_⟩
      · replace hr := ifP hr hc
        obtain ⟨hg3, hr⟩ := of_guard0 hr
        repeat refine gA ?_
        obtain rfl := Option.some.inj hr
        (simp (maxDischargeDepth := 8) [go_sem])
      · replace hr := ifN hr hc
        obtain ⟨hg4, hr⟩ := of_guard0 hr
        obtain ⟨hg5, hr⟩ := of_guard0 hr
        repeat refine gA ?_
        obtain rfl := Option.some.inj hr
        (simp (maxDischargeDepth := 8) [go_sem])
theorem f94 : FnFact Tryz.prog 94 T94.sp := ⟨⟨Tryz.f94, Tryz.func94, by decide, rfl⟩, v94⟩

/- martensite/heat.lawErr -/
def b102_2 (v10 : (List (Int × Int))) (v11 : (List (Int × Int))) (v12 : (List (Int × Int))) : (Int) → Ctl (Int) (Int) := fun s2 =>
  if (decide (s2 < (v12.length : Int))) = true then
   if 0 ≤ s2 ∧ s2 < (v12.length : Int) then
    bindC (r94 v10 ((v12.getD s2.toNat default).1) 1) fun v13 =>
     bindC (r94 v11 ((v12.getD s2.toNat default).1) 1) fun v14 =>
      if (decide ((IntKind.i64.wrap (v13.1 * v14.2)) < (IntKind.i64.wrap (v14.1 * v13.2)))) = true then
       .out (some 13)
       else .next (IntKind.i64.wrap (s2 + 1))
    else .out none
   else .out (some 0)
def b102_1 (a0 : List (Int × Int)) (a1 : List (Int × Int)) : (Int) → Ctl (Int) (Int) := fun s1 =>
  if (decide (s1 < (a0.length : Int))) = true then
   if 0 ≤ s1 ∧ s1 < (a0.length : Int) then
    bindC (r64 ((a0.getD s1.toNat default).1)) fun v1 =>
     if v1 = true → (r57 ((a0.getD s1.toNat default).2) 0 1000).isSome = true then
      bindC (r58 (v1 && ((r57 ((a0.getD s1.toNat default).2) 0 1000).getD default)) 2) fun v2 =>
       if ((v2 == 0) && (decide (s1 > 0))) = true then
        if 0 ≤ IntKind.i64.wrap (s1 - 1) ∧ IntKind.i64.wrap (s1 - 1) < (a0.length : Int) then
         if 0 ≤ IntKind.i64.wrap (s1 - 1) ∧ IntKind.i64.wrap (s1 - 1) < (a0.length : Int) then
          bindC (r58 ((decide ((IntKind.i64.wrap (((a0.getD s1.toNat default).1) - ((a0.getD (IntKind.i64.wrap (s1 - 1)).toNat default).1))) > 0)) && (decide ((IntKind.i64.wrap (((a0.getD s1.toNat default).2) - ((a0.getD (IntKind.i64.wrap (s1 - 1)).toNat default).2))) ≥ 0))) 9) fun v3 =>
           bindC (r58 (decide ((IntKind.i64.wrap (2 * (IntKind.i64.wrap (((a0.getD s1.toNat default).2) - ((a0.getD (IntKind.i64.wrap (s1 - 1)).toNat default).2))))) ≤ (IntKind.i64.wrap (((a0.getD s1.toNat default).1) - ((a0.getD (IntKind.i64.wrap (s1 - 1)).toNat default).1))))) 22) fun v4 =>
            bindC (r32 [v3, v4]) fun v5 =>
             if (v5 != 0) = true then
              .out (some v5)
              else .next (IntKind.i64.wrap (s1 + 1))
          else .out none
         else .out none
        else if (v2 != 0) = true then
         .out (some v2)
         else .next (IntKind.i64.wrap (s1 + 1))
      else .out none
    else .out none
   else .out ((r92 a0).bind fun v10 =>
    (r92 a1).bind fun v11 =>
     (r109 [v10, v11]).bind fun v12 =>
      iterC (b102_2 v10 v11 v12) 1000000000 0)
def r102 (a0 : List (Int × Int)) (a1 : List (Int × Int)) : Option (Int) :=
  if (decide ((a0.length : Int) > 6)) = true then
   some 8
   else iterC (b102_1 a0 a1) 1000000000 0
def T102 : TSpec ((List (Int × Int)) × (List (Int × Int))) where
  enc x := [.c (encF 2 d_II x.1), .c (encF 2 d_II x.2)]
  dec a := (decF g_II (aCell a 0 0), decF g_II (aCell a 1 0))
  pre x := (r102 x.1 x.2).isSome = true
  res x := [.c (.d (.int .i64 ((r102 x.1 x.2).getD default)))]
  al := false
def tb102 : Fns := lk [(32, T32.sp), (57, T57.sp), (58, T58.sp), (64, T64.sp), (92, T92.sp), (94, T94.sp), (109, T109.sp)]
theorem tb102_ok : FnsOk Tryz.prog tb102 := .cons f32 (.cons f57 (.cons f58 (.cons f64 (.cons f92 (.cons f94 (.cons f109 (FnsOk.nil)))))))
theorem tb102_32 : tb102 32 = some T32.sp := rfl
theorem tb102_57 : tb102 57 = some T57.sp := rfl
theorem tb102_58 : tb102 58 = some T58.sp := rfl
theorem tb102_64 : tb102 64 = some T64.sp := rfl
theorem tb102_92 : tb102 92 = some T92.sp := rfl
theorem tb102_94 : tb102 94 = some T94.sp := rfl
theorem tb102_109 : tb102 109 = some T109.sp := rfl
theorem v102 : Valid Tryz.prog 102 T102.sp := by
  refine valid_t (fn := Tryz.f102) (n := 112) ty_ok tb102_ok Tryz.func102 rfl Tryz.ntmps102 ?_
  rintro ⟨a0, a1⟩ hx
  obtain ⟨r, hr⟩ := Option.isSome_iff_exists.1 (show (r102 a0 a1).isSome = true from hx)
  have hres : T102.res (a0, a1) = [.c (.d (.int .i64 r))] := by simp only [T102, hr, Option.getD_some]
  refine ⟨Nat.le_of_ble_eq_true rfl, fun stop S => ?_⟩
  rw [hres] at S
  unfold r102 at hr
  refine S.goB [] 1000 ?_
  simp (maxSteps := 10000000) only [go_sem, tb102_32, T32, tb102_57, T57, tb102_58, T58, tb102_64, T64, tb102_92, T92, tb102_94, T94, tb102_109, T109, T102, Option.map_some, Int.reduceToNat, Nat.reduceEqDiff, Nat.reduceLT, Nat.reduceAdd, Nat.reduceMul, Nat.reduceSub, Nat.reduceLeDiff, reduceIte, reduceCtorEq, Tryz.results102]
  repeat refine gA ?_
  refine ⟨fun hc => ?_, fun hc => ?_⟩
  · replace hr := ifP hr hc
    repeat refine gA ?_
    obtain rfl := Option.some.inj hr
    (simp (maxDischargeDepth := 8) [go_sem])
  · replace hr := ifN hr hc
    repeat refine gA ?_
    refine S.sees [0, 1, 20, 21, 22] [] [] ?_ (Stop.iter S (fun s1 => ⟨[(0, .c (.d (encF 2 d_II a0))), (1, .c (.d (encF 2 d_II a1))), (20, .c (.d (encF 2 d_II a0))), (21, .c (.d (.int .i64 (a0.length : Int)))), (22, .c (.d (.int .i64 s1)))], [], []⟩) (b102_1 a0 a1) (fun q => q = r) hr rfl ?_)
    · (simp (maxDischargeDepth := 8) [go_sem])
    · intro s1 hr
      unfold b102_1 at hr
      refine S.goB [] 1000 ?_
      simp (maxSteps := 10000000) only [go_sem, tb102_32, T32, tb102_57, T57, tb102_58, T58, tb102_64, T64, tb102_92, T92, tb102_94, T94, tb102_109, T109, T102, Option.map_some, Int.reduceToNat, Nat.reduceEqDiff, Nat.reduceLT, Nat.reduceAdd, Nat.reduceMul, Nat.reduceSub, Nat.reduceLeDiff, reduceIte, reduceCtorEq, Tryz.results102]
      repeat refine gA ?_
      refine ⟨fun hc => ?_, fun hc => ?_⟩
      · replace hr := ifP1 hr hc
        obtain ⟨hg8, hr⟩ := of_guard1 hr
        obtain ⟨v1, hv1, hr⟩ := of_bind1 hr
        obtain ⟨hg9, hr⟩ := of_guard1 hr
        obtain ⟨v2, hv2, hr⟩ := of_bind1 hr
        try simp only [hv1, hv2, Option.getD_some, Option.isSome_some, true_and, and_assoc]
        repeat (first | refine gG hg9 ?_ | refine gA ?_ | refine gB ?_)
        refine ⟨fun hc => ?_, fun hc => ?_⟩
        · replace hr := ifP1 hr hc
          obtain ⟨hg6, hr⟩ := of_guard1 hr
          obtain ⟨hg7, hr⟩ := of_guard1 hr
          obtain ⟨v3, hv3, hr⟩ := of_bind1 hr
          obtain ⟨v4, hv4, hr⟩ := of_bind1 hr
          obtain ⟨v5, hv5, hr⟩ := of_bind1 hr
          try simp only [hv3, hv4, hv5, Option.getD_some, Option.isSome_some, true_and, and_assoc]
          repeat (first | refine gA ?_ | refine gB ?_)
          refine ⟨fun hc => ?_, fun hc => ?_⟩
          · replace hr := ifP1 hr hc
            repeat refine gA ?_
            have hr := of_out0 hr
            obtain rfl := Option.some.inj hr
            (simp (maxDischargeDepth := 8) [go_sem])
          · replace hr := ifN1 hr hc
            repeat refine gA ?_
            refine S.sees [0, 1, 20, 21, 22] [] [] ?_ hr
            (simp (maxDischargeDepth := 8) [go_sem])
        · replace hr := ifN1 hr hc
          repeat refine gA ?_
          refine ⟨fun hc => ?_, fun hc => ?_⟩
          · replace hr := ifP1 hr hc
            repeat refine gA ?_
            have hr := of_out0 hr
            obtain rfl := Option.some.inj hr
            (simp (maxDischargeDepth := 8) [go_sem])
          · replace hr := ifN1 hr hc
            repeat refine gA ?_
            refine S.sees [0, 1, 20, 21, 22] [] [] ?_ hr
            (simp (maxDischargeDepth := 8) [go_sem])
      · replace hr := ifN1 hr hc
        repeat refine gA ?_
        have hr := of_out0 hr
        obtain ⟨v10, hv10, hr⟩ := of_bind0 hr
        obtain ⟨v11, hv11, hr⟩ := of_bind0 hr
        obtain ⟨v12, hv12, hr⟩ := of_bind0 hr
        try simp only [hv10, hv11, hv12, Option.getD_some, Option.isSome_some, true_and, and_assoc]
        repeat refine gA ?_
        refine S.sees [10, 11, 85, 86, 87] [] [(79, 79), (81, 81), (85, 85)] ?_ (Stop.iter S (fun s2 => ⟨[(10, .c (.own 79)), (11, .c (.own 81)), (85, .c (.own 85)), (86, .c (.d (.int .i64 (v12.length : Int)))), (87, .c (.d (.int .i64 s2)))], [], [(79, .shared (encF 2 d_II v10)), (81, .shared (encF 2 d_II v11)), (85, .owned (encF 2 d_II v12))]⟩) (b102_2 v10 v11 v12) (fun q => q = r) hr rfl ?_)
        · (simp (maxDischargeDepth := 8) [go_sem])
        · intro s2 hr
          unfold b102_2 at hr
          refine S.goB [] 1000 ?_
          simp (maxSteps := 10000000) only [go_sem, tb102_32, T32, tb102_57, T57, tb102_58, T58, tb102_64, T64, tb102_92, T92, tb102_94, T94, tb102_109, T109, T102, Option.map_some, Int.reduceToNat, Nat.reduceEqDiff, Nat.reduceLT, Nat.reduceAdd, Nat.reduceMul, Nat.reduceSub, Nat.reduceLeDiff, reduceIte, reduceCtorEq, Tryz.results102]
          repeat refine gA ?_
          refine ⟨fun hc => ?_, fun hc => ?_⟩
          · replace hr := ifP1 hr hc
            obtain ⟨hg15, hr⟩ := of_guard1 hr
            obtain ⟨v13, hv13, hr⟩ := of_bind1 hr
            obtain ⟨v14, hv14, hr⟩ := of_bind1 hr
            try simp only [hv13, hv14, Option.getD_some, Option.isSome_some, true_and, and_assoc]
            repeat refine gA ?_
            refine ⟨fun hc => ?_, fun hc => ?_⟩
            · replace hr := ifP1 hr hc
              repeat refine gA ?_
              have hr := of_out0 hr
              obtain rfl := Option.some.inj hr
              (simp (maxDischargeDepth := 8) [go_sem])
            · replace hr := ifN1 hr hc
              repeat refine gA ?_
              refine S.sees [10, 11, 85, 86, 87] [] [(79, 79), (81, 81), (85, 85)] ?_ hr
              (simp (maxDischargeDepth := 8) [go_sem])
          · replace hr := ifN1 hr hc
            repeat refine gA ?_
            have hr := of_out0 hr
            repeat refine gA ?_
            obtain rfl := Option.some.inj hr
            (simp (maxDischargeDepth := 8) [go_sem])
theorem f102 : FnFact Tryz.prog 102 T102.sp := ⟨⟨Tryz.f102, Tryz.func102, by decide, rfl⟩, v102⟩

/- martensite/heat.CheckSetup -/
def b90_1 (a0_3 : List ((List (Int × Int)))) : ((List (Int × Int)) × Int) → Ctl ((List (Int × Int)) × Int) (Int × Int) := fun s1 =>
  if (decide (s1.2 < (a0_3.length : Int))) = true then
   if 0 ≤ s1.2 ∧ s1.2 < (a0_3.length : Int) then
    bindC (r102 (a0_3.getD s1.2.toNat default) s1.1) fun v3 =>
     if (v3 != 0) = true then
      .out (some (s1.2, v3))
      else .next ((a0_3.getD s1.2.toNat default), IntKind.i64.wrap (s1.2 + 1))
    else .out none
   else .out (some (0, 0))
def r90 (a0_0 : Int) (a0_1 : Int) (a0_2 : List (Int × Int)) (a0_3 : List ((List (Int × Int)))) : Option (Int × Int) :=
  (r57 a0_0 1 12).bind fun v1 =>
   if (!(!v1)) = true → (r57 a0_1 0 500).isSome = true then
    if ((!v1) || (!((r57 a0_1 0 500).getD default))) = true then
     some (0, 2)
     else (r101 a0_2).bind fun v2 =>
      if (v2.2 != 0) = true then
       some (v2.1, v2.2)
       else if (decide ((a0_3.length : Int) > 4)) = true then
        some (0, 8)
        else iterC (b90_1 a0_3) 1000000000 ([], 0)
    else none
def T90 : TSpec (Int × Int × (List (Int × Int)) × (List ((List (Int × Int))))) where
  enc x := [.agg [.int .i64 x.1, .int .i64 x.2.1, encF 2 d_II x.2.2.1, encF 1 d_LIIE x.2.2.2]]
  dec a := (dInt (aCell a 0 0), dInt (aCell a 0 1), decF g_II (aCell a 0 2), decF g_LIIE (aCell a 0 3))
  pre x := (r90 x.1 x.2.1 x.2.2.1 x.2.2.2).isSome = true
  res x := [.c (.d (.int .i64 (((r90 x.1 x.2.1 x.2.2.1 x.2.2.2).getD default).1))), .c (.d (.int .i64 (((r90 x.1 x.2.1 x.2.2.1 x.2.2.2).getD default).2)))]
  al := false
def tb90 : Fns := lk [(57, T57.sp), (101, T101.sp), (102, T102.sp)]
theorem tb90_ok : FnsOk Tryz.prog tb90 := .cons f57 (.cons f101 (.cons f102 (FnsOk.nil)))
theorem tb90_57 : tb90 57 = some T57.sp := rfl
theorem tb90_101 : tb90 101 = some T101.sp := rfl
theorem tb90_102 : tb90 102 = some T102.sp := rfl
theorem v90 : Valid Tryz.prog 90 T90.sp := by
  refine valid_t (fn := Tryz.f90) (n := 51) ty_ok tb90_ok Tryz.func90 rfl Tryz.ntmps90 ?_
  rintro ⟨a0_0, a0_1, a0_2, a0_3⟩ hx
  obtain ⟨r, hr⟩ := Option.isSome_iff_exists.1 (show (r90 a0_0 a0_1 a0_2 a0_3).isSome = true from hx)
  have hres : T90.res (a0_0, a0_1, a0_2, a0_3) = [.c (.d (.int .i64 r.1)), .c (.d (.int .i64 r.2))] := by simp only [T90, hr, Option.getD_some]
  refine ⟨Nat.le_of_ble_eq_true rfl, fun stop S => ?_⟩
  rw [hres] at S
  unfold r90 at hr
  refine S.goB [] 1000 ?_
  simp (maxSteps := 10000000) only [go_sem, tb90_57, T57, tb90_101, T101, tb90_102, T102, T90, Option.map_some, Int.reduceToNat, Nat.reduceEqDiff, Nat.reduceLT, Nat.reduceAdd, Nat.reduceMul, Nat.reduceSub, Nat.reduceLeDiff, reduceIte, reduceCtorEq, Tryz.results90]
  obtain ⟨v1, hv1, hr⟩ := of_bind0 hr
  obtain ⟨hg5, hr⟩ := of_guard0 hr
  try simp only [hv1, Option.getD_some, Option.isSome_some, true_and, and_assoc]
  repeat (first | refine gG hg5 ?_ | refine gA ?_ | refine gB ?_)
  refine ⟨fun hc => ?_, fun hc => ?_⟩
  · replace hr := ifP hr hc
    repeat refine gA ?_
    obtain rfl := Option.some.inj hr
    (simp (maxDischargeDepth := 8) [go_sem])
  · replace hr := ifN hr hc
    obtain ⟨v2, hv2, hr⟩ := of_bind0 hr
    try simp only [hv2, Option.getD_some, Option.isSome_some, true_and, and_assoc]
    repeat refine gA ?_
    refine ⟨fun hc => ?_, fun hc => ?_⟩
    · replace hr := ifP hr hc
      repeat refine gA ?_
      obtain rfl := Option.some.inj hr
      (simp (maxDischargeDepth := 8) [go_sem])
    · replace hr := ifN hr hc
      repeat refine gA ?_
      refine ⟨fun hc => ?_, fun hc => ?_⟩
      · replace hr := ifP hr hc
        repeat refine gA ?_
        obtain rfl := Option.some.inj hr
        (simp (maxDischargeDepth := 8) [go_sem])
      · replace hr := ifN hr hc
        repeat refine gA ?_
        refine S.sees [6, 35, 36, 37] [] [] ?_ (Stop.iter S (fun s1 => ⟨[(6, .c (.d (encF 2 d_II s1.1))), (35, .c (.d (encF 1 d_LIIE a0_3))), (36, .c (.d (.int .i64 (a0_3.length : Int)))), (37, .c (.d (.int .i64 s1.2)))], [], []⟩) (b90_1 a0_3) (fun q => q = r) hr rfl ?_)
        · (simp (maxDischargeDepth := 8) [go_sem])
        · intro s1 hr
          unfold b90_1 at hr
          refine S.goB [] 1000 ?_
          simp (maxSteps := 10000000) only [go_sem, tb90_57, T57, tb90_101, T101, tb90_102, T102, T90, Option.map_some, Int.reduceToNat, Nat.reduceEqDiff, Nat.reduceLT, Nat.reduceAdd, Nat.reduceMul, Nat.reduceSub, Nat.reduceLeDiff, reduceIte, reduceCtorEq, Tryz.results90]
          repeat refine gA ?_
          refine ⟨fun hc => ?_, fun hc => ?_⟩
          · replace hr := ifP1 hr hc
            obtain ⟨hg4, hr⟩ := of_guard1 hr
            obtain ⟨v3, hv3, hr⟩ := of_bind1 hr
            try simp only [hv3, Option.getD_some, Option.isSome_some, true_and, and_assoc]
            repeat refine gA ?_
            refine ⟨fun hc => ?_, fun hc => ?_⟩
            · replace hr := ifP1 hr hc
              repeat refine gA ?_
              have hr := of_out0 hr
              obtain rfl := Option.some.inj hr
              (simp (maxDischargeDepth := 8) [go_sem])
            · replace hr := ifN1 hr hc
              repeat refine gA ?_
              refine S.sees [6, 35, 36, 37] [] [] ?_ hr
              (simp (maxDischargeDepth := 8) [go_sem])
          · replace hr := ifN1 hr hc
            repeat refine gA ?_
            have hr := of_out0 hr
            repeat refine gA ?_
            obtain rfl := Option.some.inj hr
            (simp (maxDischargeDepth := 8) [go_sem])
theorem f90 : FnFact Tryz.prog 90 T90.sp := ⟨⟨Tryz.f90, Tryz.func90, by decide, rfl⟩, v90⟩

/- martensite/heat.pairs -/
def b91_1 (a0 : List (Int × Int)) : ((List (Int × Int)) × Int) → Ctl ((List (Int × Int)) × Int) ((List (Int × Int))) := fun s1 =>
  if (decide (s1.2 < (a0.length : Int))) = true then
   if 0 ≤ s1.2 ∧ s1.2 < (a0.length : Int) then
    if (s1.1.length + 1) * 16 ≤ 140737488355328 ∧ s1.1.length + 1 ≤ 9223372036854775807 then
     .next (s1.1 ++ [((a0.getD s1.2.toNat default).1, (a0.getD s1.2.toNat default).2)], IntKind.i64.wrap (s1.2 + 1))
     else .out none
    else .out none
   else .out (some s1.1)
def r91 (a0 : List (Int × Int)) : Option ((List (Int × Int))) :=
  iterC (b91_1 a0) 1000000000 ([], 0)
def T91 : TSpec ((List (Int × Int))) where
  enc x := [.c (encF 2 d_II x)]
  dec a := decF g_II (aCell a 0 0)
  pre x := (r91 x).isSome = true
  res x := [.c (.own (encF 2 d_II ((r91 x).getD default)))]
  al := false
def tb91 : Fns := lk []
theorem tb91_ok : FnsOk Tryz.prog tb91 := FnsOk.nil
theorem v91 : Valid Tryz.prog 91 T91.sp := by
  refine valid_t (fn := Tryz.f91) (n := 22) ty_ok tb91_ok Tryz.func91 rfl Tryz.ntmps91 ?_
  rintro a0 hx
  obtain ⟨r, hr⟩ := Option.isSome_iff_exists.1 (show (r91 a0).isSome = true from hx)
  have hres : T91.res a0 = [.c (.own (encF 2 d_II r))] := by simp only [T91, hr, Option.getD_some]
  refine ⟨Nat.le_of_ble_eq_true rfl, fun stop S => ?_⟩
  rw [hres] at S
  unfold r91 at hr
  refine S.goB [] 1000 ?_
  simp (maxSteps := 10000000) only [go_sem, T91, Option.map_some, Int.reduceToNat, Nat.reduceEqDiff, Nat.reduceLT, Nat.reduceAdd, Nat.reduceMul, Nat.reduceSub, Nat.reduceLeDiff, reduceIte, reduceCtorEq, Tryz.results91]
  repeat refine gA ?_
  refine S.own0 3 1000300 2 rfl rfl ?_
  refine S.sees [3, 6, 7, 8] [] [(1000300, 1000300)] ?_ (Stop.iter S (fun s1 => ⟨[(3, .c (.own 1000300)), (6, .c (.d (encF 2 d_II a0))), (7, .c (.d (.int .i64 (a0.length : Int)))), (8, .c (.d (.int .i64 s1.2)))], [], [(1000300, .owned (encF 2 d_II s1.1))]⟩) (b91_1 a0) (fun q => q = r) hr rfl ?_)
  · (simp (maxDischargeDepth := 8) [go_sem])
  · intro s1 hr
    unfold b91_1 at hr
    refine S.goB [] 1000 ?_
    simp (maxSteps := 10000000) only [go_sem, T91, Option.map_some, Int.reduceToNat, Nat.reduceEqDiff, Nat.reduceLT, Nat.reduceAdd, Nat.reduceMul, Nat.reduceSub, Nat.reduceLeDiff, reduceIte, reduceCtorEq, Tryz.results91]
    repeat refine gA ?_
    refine ⟨fun hc => ?_, fun hc => ?_⟩
    · replace hr := ifP1 hr hc
      obtain ⟨hg1, hr⟩ := of_guard1 hr
      obtain ⟨hg2, hr⟩ := of_guard1 hr
      repeat refine gA ?_
      refine S.sees [3, 6, 7, 8] [] [(19, 1000300)] ?_ hr
      (simp (maxDischargeDepth := 8) [go_sem])
    · replace hr := ifN1 hr hc
      repeat refine gA ?_
      have hr := of_out0 hr
      repeat refine gA ?_
      obtain rfl := Option.some.inj hr
      (simp (maxDischargeDepth := 8) [go_sem])
theorem f91 : FnFact Tryz.prog 91 T91.sp := ⟨⟨Tryz.f91, Tryz.func91, by decide, rfl⟩, v91⟩
end Go.Proofs.YtcbiiijnaeibhaaGreat

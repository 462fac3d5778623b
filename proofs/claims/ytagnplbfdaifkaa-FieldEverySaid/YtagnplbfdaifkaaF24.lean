/- Contracts of functions, written by wip/dec. -/
import Derived.Test.YtagnplbfdaifkaaF00
import Derived.Test.YtagnplbfdaifkaaF01
import Derived.Test.YtagnplbfdaifkaaF02
import Derived.Test.YtagnplbfdaifkaaF05
import Derived.Test.YtagnplbfdaifkaaF17
set_option linter.unusedVariables false
set_option linter.unusedSimpArgs false
set_option maxHeartbeats 4000000
set_option maxRecDepth 20000
namespace Go.Proofs.Ytagnplbfdaifkaa
open Go.Abs
/- martensite/martensiteref02.CopyClass -/
def r60 (a0_0 : Int) (a0_1 : List (Int × Int × Int)) (a0_2 : List (Int × Int)) : Option (Int × (List (Int × Int × Int)) × (List (Int × Int))) :=
  (r19 a0_0 a0_1).bind fun v1 =>
   if (0 + a0_2.length) * 16 ≤ 140737488355328 ∧ 0 + a0_2.length ≤ 9223372036854775807 then
    some (v1.1, v1.2, a0_2)
    else none
def T60 : TSpec (Int × (List (Int × Int × Int)) × (List (Int × Int))) where
  enc x := [.agg [.int .i64 x.1, encF 3 d_III x.2.1, encF 2 d_II x.2.2]]
  dec a := (dInt (aCell a 0 0), decF g_III (aCell a 0 1), decF g_II (aCell a 0 2))
  pre x := (r60 x.1 x.2.1 x.2.2).isSome = true
  res x := [.agg [.d (.int .i64 (((r60 x.1 x.2.1 x.2.2).getD default).1)), .own (encF 3 d_III (((r60 x.1 x.2.1 x.2.2).getD default).2.1)), .own (encF 2 d_II (((r60 x.1 x.2.1 x.2.2).getD default).2.2))]]
  al := false
def tb60 : Fns := lk [(19, T19.sp)]
theorem tb60_ok : FnsOk Try.prog tb60 := .cons f19 (FnsOk.nil)
theorem tb60_19 : tb60 19 = some T19.sp := rfl
theorem v60 : Valid Try.prog 60 T60.sp := by
  refine valid_t (fn := Try.f60) (n := 11) ty_ok tb60_ok Try.func60 rfl Try.ntmps60 ?_
  rintro ⟨a0_0, a0_1, a0_2⟩ hx
  obtain ⟨r, hr⟩ := Option.isSome_iff_exists.1 (show (r60 a0_0 a0_1 a0_2).isSome = true from hx)
  have hres : T60.res (a0_0, a0_1, a0_2) = [.agg [.d (.int .i64 r.1), .own (encF 3 d_III r.2.1), .own (encF 2 d_II r.2.2)]] := by simp only [T60, hr, Option.getD_some]
  refine ⟨Nat.le_of_ble_eq_true rfl, fun stop S => ?_⟩
  rw [hres] at S
  unfold r60 at hr
  refine S.goB [] 1000 ?_
  simp (maxSteps := 10000000) only [go_sem, tb60_19, T19, T60, Bool.not_true, Bool.not_false, Option.map_some, Int.reduceToNat, Nat.reduceEqDiff, Nat.reduceLT, Nat.reduceAdd, Nat.reduceMul, Nat.reduceSub, Nat.reduceLeDiff, reduceIte, reduceCtorEq, Try.results60]
  obtain ⟨v1, hv1, hr⟩ := of_bind0 hr
  obtain ⟨hg2, hr⟩ := of_guard0 hr
  try simp only [hv1, Option.getD_some, Option.isSome_some, true_and, and_assoc]
  repeat refine gA ?_
  obtain rfl := Option.some.inj hr
  (simp (maxDischargeDepth := 8) [go_sem, -List.drop_one])
theorem f60 : FnFact Try.prog 60 T60.sp := ⟨⟨Try.f60, Try.func60, by decide, rfl⟩, v60⟩

/- martensite/field.CheckClass$1 -/
def r118 (a0 : Int) : Option (Bool) :=
  (r97 a0 1 4).bind fun v1 =>
   some v1
def T118 : TSpec (Int) where
  enc x := [.c (.int .i64 x)]
  dec a := dInt (aCell a 0 0)
  pre x := (r118 x).isSome = true
  res x := [.c (.d (.bool ((r118 x).getD default)))]
  al := false
def tb118 : Fns := lk [(97, T97.sp)]
theorem tb118_ok : FnsOk Try.prog tb118 := .cons f97 (FnsOk.nil)
theorem tb118_97 : tb118 97 = some T97.sp := rfl
theorem v118 : Valid Try.prog 118 T118.sp := by
  refine valid_t (fn := Try.f118) (n := 5) ty_ok tb118_ok Try.func118 rfl Try.ntmps118 ?_
  rintro a0 hx
  obtain ⟨r, hr⟩ := Option.isSome_iff_exists.1 (show (r118 a0).isSome = true from hx)
  have hres : T118.res a0 = [.c (.d (.bool r))] := by simp only [T118, hr, Option.getD_some]
  refine ⟨Nat.le_of_ble_eq_true rfl, fun stop S => ?_⟩
  rw [hres] at S
  unfold r118 at hr
  refine S.goB [] 1000 ?_
  simp (maxSteps := 10000000) only [go_sem, tb118_97, T97, T118, Bool.not_true, Bool.not_false, Option.map_some, Int.reduceToNat, Nat.reduceEqDiff, Nat.reduceLT, Nat.reduceAdd, Nat.reduceMul, Nat.reduceSub, Nat.reduceLeDiff, reduceIte, reduceCtorEq, Try.results118]
  obtain ⟨v1, hv1, hr⟩ := of_bind0 hr
  try simp only [hv1, Option.getD_some, Option.isSome_some, true_and, and_assoc]
  repeat refine gA ?_
  obtain rfl := Option.some.inj hr
  (simp (maxDischargeDepth := 8) [go_sem, -List.drop_one])
theorem f118 : FnFact Try.prog 118 T118.sp := ⟨⟨Try.f118, Try.func118, by decide, rfl⟩, v118⟩

/- martensite/field.CheckClass -/
def b59_1 (a0_2 : List (Int × Int)) : (Int) → Ctl (Int) (Int × Int) := fun s1 =>
  if (decide (s1 < (a0_2.length : Int))) = true then
   if 0 ≤ s1 ∧ s1 < (a0_2.length : Int) then
    bindC (r118 ((a0_2.getD s1.toNat default).1)) fun v2 =>
     if v2 = true → (r118 ((a0_2.getD s1.toNat default).2)).isSome = true then
      bindC (r96 (v2 && ((r118 ((a0_2.getD s1.toNat default).2)).getD default)) 2) fun v3 =>
       bindC (r96 (decide (((a0_2.getD s1.toNat default).1) ≤ ((a0_2.getD s1.toNat default).2))) 9) fun v4 =>
        bindC (r87 [v3, v4]) fun v5 =>
         if (v5 != 0) = true then
          .out (some (s1, v5))
          else .next (IntKind.i64.wrap (s1 + 1))
      else .out none
    else .out none
   else .out (some (0, 0))
def r59 (a0_0 : Int) (a0_1 : List (Int × Int × Int)) (a0_2 : List (Int × Int)) : Option (Int × Int) :=
  (r26 a0_0 a0_1).bind fun v1 =>
   if (v1.2 != 0) = true then
    some (v1.1, v1.2)
    else if ((a0_2.length : Int) != (a0_1.length : Int)) = true then
     some (0, 10)
     else iterC (b59_1 a0_2) 1000000000 0
def T59 : TSpec (Int × (List (Int × Int × Int)) × (List (Int × Int))) where
  enc x := [.agg [.int .i64 x.1, encF 3 d_III x.2.1, encF 2 d_II x.2.2]]
  dec a := (dInt (aCell a 0 0), decF g_III (aCell a 0 1), decF g_II (aCell a 0 2))
  pre x := (r59 x.1 x.2.1 x.2.2).isSome = true
  res x := [.c (.d (.int .i64 (((r59 x.1 x.2.1 x.2.2).getD default).1))), .c (.d (.int .i64 (((r59 x.1 x.2.1 x.2.2).getD default).2)))]
  al := false
def tb59 : Fns := lk [(26, T26.sp), (87, T87.sp), (96, T96.sp), (118, T118.sp)]
theorem tb59_ok : FnsOk Try.prog tb59 := .cons f26 (.cons f87 (.cons f96 (.cons f118 (FnsOk.nil))))
theorem tb59_26 : tb59 26 = some T26.sp := rfl
theorem tb59_87 : tb59 87 = some T87.sp := rfl
theorem tb59_96 : tb59 96 = some T96.sp := rfl
theorem tb59_118 : tb59 118 = some T118.sp := rfl
theorem v59 : Valid Try.prog 59 T59.sp := by
  refine valid_t (fn := Try.f59) (n := 60) ty_ok tb59_ok Try.func59 rfl Try.ntmps59 ?_
  rintro ⟨a0_0, a0_1, a0_2⟩ hx
  obtain ⟨r, hr⟩ := Option.isSome_iff_exists.1 (show (r59 a0_0 a0_1 a0_2).isSome = true from hx)
  have hres : T59.res (a0_0, a0_1, a0_2) = [.c (.d (.int .i64 r.1)), .c (.d (.int .i64 r.2))] := by simp only [T59, hr, Option.getD_some]
  refine ⟨Nat.le_of_ble_eq_true rfl, fun stop S => ?_⟩
  rw [hres] at S
  unfold r59 at hr
  refine S.goB [] 1000 ?_
  simp (maxSteps := 10000000) only [go_sem, tb59_26, T26, tb59_87, T87, tb59_96, T96, tb59_118, T118, T59, Bool.not_true, Bool.not_false, Option.map_some, Int.reduceToNat, Nat.reduceEqDiff, Nat.reduceLT, Nat.reduceAdd, Nat.reduceMul, Nat.reduceSub, Nat.reduceLeDiff, reduceIte, reduceCtorEq, Try.results59]
  obtain ⟨v1, hv1, hr⟩ := of_bind0 hr
  try simp only [hv1, Option.getD_some, Option.isSome_some, true_and, and_assoc]
  repeat refine gA ?_
  refine ⟨fun hc => ?_, fun hc => ?_⟩
  · replace hr := ifP hr hc
    repeat refine gA ?_
    obtain rfl := Option.some.inj hr
    (simp (maxDischargeDepth := 8) [go_sem, -List.drop_one])
  · replace hr := ifN hr hc
    repeat refine gA ?_
    refine ⟨fun hc => ?_, fun hc => ?_⟩
    · replace hr := ifP hr hc
      repeat refine gA ?_
      obtain rfl := Option.some.inj hr
      (simp (maxDischargeDepth := 8) [go_sem, -List.drop_one])
    · replace hr := ifN hr hc
      repeat refine gA ?_
      refine S.sees [6, 29, 30, 31] [] [] ?_ (Stop.iter S (fun s1 => ⟨[(6, .c (.clo 118 [])), (29, .c (.d (encF 2 d_II a0_2))), (30, .c (.d (.int .i64 (a0_2.length : Int)))), (31, .c (.d (.int .i64 s1)))], [], []⟩) (b59_1 a0_2) (fun q => q = r) hr rfl ?_)
      · (simp (maxDischargeDepth := 8) [go_sem, -List.drop_one])
      · intro s1 hr
        unfold b59_1 at hr
        refine S.goB [] 1000 ?_
        simp (maxSteps := 10000000) only [go_sem, tb59_26, T26, tb59_87, T87, tb59_96, T96, tb59_118, T118, T59, Bool.not_true, Bool.not_false, Option.map_some, Int.reduceToNat, Nat.reduceEqDiff, Nat.reduceLT, Nat.reduceAdd, Nat.reduceMul, Nat.reduceSub, Nat.reduceLeDiff, reduceIte, reduceCtorEq, Try.results59]
        repeat refine gA ?_
        refine ⟨fun hc => ?_, fun hc => ?_⟩
        · replace hr := ifP1 hr hc
          obtain ⟨hg6, hr⟩ := of_guard1 hr
          obtain ⟨v2, hv2, hr⟩ := of_bind1 hr
          obtain ⟨hg7, hr⟩ := of_guard1 hr
          obtain ⟨v3, hv3, hr⟩ := of_bind1 hr
          obtain ⟨v4, hv4, hr⟩ := of_bind1 hr
          obtain ⟨v5, hv5, hr⟩ := of_bind1 hr
          try simp only [hv2, hv3, hv4, hv5, Option.getD_some, Option.isSome_some, true_and, and_assoc]
          repeat (first | refine gG hg7 ?_ | refine gA ?_ | refine gB ?_)
          refine ⟨fun hc => ?_, fun hc => ?_⟩
          · replace hr := ifP1 hr hc
            repeat refine gA ?_
            have hr := of_out0 hr
            obtain rfl := Option.some.inj hr
            (simp (maxDischargeDepth := 8) [go_sem, -List.drop_one])
          · replace hr := ifN1 hr hc
            repeat refine gA ?_
            refine S.sees [6, 29, 30, 31] [] [] ?_ hr
            (simp (maxDischargeDepth := 8) [go_sem, -List.drop_one])
        · replace hr := ifN1 hr hc
          repeat refine gA ?_
          have hr := of_out0 hr
          repeat refine gA ?_
          obtain rfl := Option.some.inj hr
          (simp (maxDischargeDepth := 8) [go_sem, -List.drop_one])
theorem f59 : FnFact Try.prog 59 T59.sp := ⟨⟨Try.f59, Try.func59, by decide, rfl⟩, v59⟩

/- slices.Clip -/
theorem clip133 (w : World) (ao : Option Addr) (len cap : Nat) (h : len ≤ cap) : Calls Try.prog 133 #[.slice ao len cap] w fun e w' => ∃ v, e = .returned v ∧ w' = w ∧ v = .slice ao len len := by
  go_enter Try.func133, Try.ntmps133
  go_wp2
  all_goals go_ret
  exact ⟨_, rfl, rfl, rfl⟩

/- martensite/field.RangesOf -/
def b61_1 (v6 : (List (Int))) : (Int × (List (Int × Int))) → Ctl (Int × (List (Int × Int))) ((List (Int × Int)) × Int) := fun s1 =>
  if (decide (s1.1 < (v6.length : Int))) = true then
   if 0 ≤ s1.1 ∧ s1.1 < (v6.length : Int) then
    if (s1.1 == (s1.2.length : Int)) = true then
     if (s1.2.length + 1) * 16 ≤ 140737488355328 ∧ s1.2.length + 1 ≤ 9223372036854775807 then
      if 0 ≤ s1.1 ∧ s1.1 < ((s1.2 ++ [((v6.getD s1.1.toNat default), (v6.getD s1.1.toNat default))]).length : Int) then
       if 0 ≤ s1.1 ∧ s1.1 < ((s1.2 ++ [((v6.getD s1.1.toNat default), (v6.getD s1.1.toNat default))]).length : Int) then
        if 0 ≤ s1.1 ∧ s1.1 < ((s1.2 ++ [((v6.getD s1.1.toNat default), (v6.getD s1.1.toNat default))]).length : Int) then
         .next (IntKind.i64.wrap (s1.1 + 1), (s1.2 ++ [((v6.getD s1.1.toNat default), (v6.getD s1.1.toNat default))]).set s1.1.toNat ((if (v6.getD s1.1.toNat default) < ((s1.2 ++ [((v6.getD s1.1.toNat default), (v6.getD s1.1.toNat default))]).getD s1.1.toNat default).1 then (v6.getD s1.1.toNat default) else ((s1.2 ++ [((v6.getD s1.1.toNat default), (v6.getD s1.1.toNat default))]).getD s1.1.toNat default).1), (if ((s1.2 ++ [((v6.getD s1.1.toNat default), (v6.getD s1.1.toNat default))]).getD s1.1.toNat default).2 < (v6.getD s1.1.toNat default) then (v6.getD s1.1.toNat default) else ((s1.2 ++ [((v6.getD s1.1.toNat default), (v6.getD s1.1.toNat default))]).getD s1.1.toNat default).2)))
         else .out none
        else .out none
       else .out none
      else .out none
     else if 0 ≤ s1.1 ∧ s1.1 < (s1.2.length : Int) then
      if 0 ≤ s1.1 ∧ s1.1 < (s1.2.length : Int) then
       if 0 ≤ s1.1 ∧ s1.1 < (s1.2.length : Int) then
        .next (IntKind.i64.wrap (s1.1 + 1), s1.2.set s1.1.toNat ((if (v6.getD s1.1.toNat default) < (s1.2.getD s1.1.toNat default).1 then (v6.getD s1.1.toNat default) else (s1.2.getD s1.1.toNat default).1), (if (s1.2.getD s1.1.toNat default).2 < (v6.getD s1.1.toNat default) then (v6.getD s1.1.toNat default) else (s1.2.getD s1.1.toNat default).2)))
        else .out none
       else .out none
      else .out none
    else .out none
   else .out (some (s1.2, 0))
def b61_3 (s2 : Int × (List (Int × Int))) (v15 : (List (Int))) : (Int × (List (Int × Int))) → Ctl (Int × (List (Int × Int))) (Ctl (Int × (List (Int × Int))) ((List (Int × Int)) × Int)) := fun s3 =>
  if (decide (s3.1 < (v15.length : Int))) = true then
   if 0 ≤ s3.1 ∧ s3.1 < (v15.length : Int) then
    if (s3.1 == (s3.2.length : Int)) = true then
     if (s3.2.length + 1) * 16 ≤ 140737488355328 ∧ s3.2.length + 1 ≤ 9223372036854775807 then
      if 0 ≤ s3.1 ∧ s3.1 < ((s3.2 ++ [((v15.getD s3.1.toNat default), (v15.getD s3.1.toNat default))]).length : Int) then
       if 0 ≤ s3.1 ∧ s3.1 < ((s3.2 ++ [((v15.getD s3.1.toNat default), (v15.getD s3.1.toNat default))]).length : Int) then
        if 0 ≤ s3.1 ∧ s3.1 < ((s3.2 ++ [((v15.getD s3.1.toNat default), (v15.getD s3.1.toNat default))]).length : Int) then
         .next (IntKind.i64.wrap (s3.1 + 1), (s3.2 ++ [((v15.getD s3.1.toNat default), (v15.getD s3.1.toNat default))]).set s3.1.toNat ((if (v15.getD s3.1.toNat default) < ((s3.2 ++ [((v15.getD s3.1.toNat default), (v15.getD s3.1.toNat default))]).getD s3.1.toNat default).1 then (v15.getD s3.1.toNat default) else ((s3.2 ++ [((v15.getD s3.1.toNat default), (v15.getD s3.1.toNat default))]).getD s3.1.toNat default).1), (if ((s3.2 ++ [((v15.getD s3.1.toNat default), (v15.getD s3.1.toNat default))]).getD s3.1.toNat default).2 < (v15.getD s3.1.toNat default) then (v15.getD s3.1.toNat default) else ((s3.2 ++ [((v15.getD s3.1.toNat default), (v15.getD s3.1.toNat default))]).getD s3.1.toNat default).2)))
         else .out none
        else .out none
       else .out none
      else .out none
     else if 0 ≤ s3.1 ∧ s3.1 < (s3.2.length : Int) then
      if 0 ≤ s3.1 ∧ s3.1 < (s3.2.length : Int) then
       if 0 ≤ s3.1 ∧ s3.1 < (s3.2.length : Int) then
        .next (IntKind.i64.wrap (s3.1 + 1), s3.2.set s3.1.toNat ((if (v15.getD s3.1.toNat default) < (s3.2.getD s3.1.toNat default).1 then (v15.getD s3.1.toNat default) else (s3.2.getD s3.1.toNat default).1), (if (s3.2.getD s3.1.toNat default).2 < (v15.getD s3.1.toNat default) then (v15.getD s3.1.toNat default) else (s3.2.getD s3.1.toNat default).2)))
        else .out none
       else .out none
      else .out none
    else .out none
   else .out (some (.next (IntKind.i64.wrap (s2.1 + 1), s3.2)))
def b61_5 (s4 : Int × (List (Int × Int))) (v24 : (List (Int))) : (Int × (List (Int × Int))) → Ctl (Int × (List (Int × Int))) (Ctl (Int × (List (Int × Int))) (Ctl (Int × (List (Int × Int))) ((List (Int × Int)) × Int))) := fun s5 =>
  if (decide (s5.1 < (v24.length : Int))) = true then
   if 0 ≤ s5.1 ∧ s5.1 < (v24.length : Int) then
    if (s5.1 == (s5.2.length : Int)) = true then
     if (s5.2.length + 1) * 16 ≤ 140737488355328 ∧ s5.2.length + 1 ≤ 9223372036854775807 then
      if 0 ≤ s5.1 ∧ s5.1 < ((s5.2 ++ [((v24.getD s5.1.toNat default), (v24.getD s5.1.toNat default))]).length : Int) then
       if 0 ≤ s5.1 ∧ s5.1 < ((s5.2 ++ [((v24.getD s5.1.toNat default), (v24.getD s5.1.toNat default))]).length : Int) then
        if 0 ≤ s5.1 ∧ s5.1 < ((s5.2 ++ [((v24.getD s5.1.toNat default), (v24.getD s5.1.toNat default))]).length : Int) then
         .next (IntKind.i64.wrap (s5.1 + 1), (s5.2 ++ [((v24.getD s5.1.toNat default), (v24.getD s5.1.toNat default))]).set s5.1.toNat ((if (v24.getD s5.1.toNat default) < ((s5.2 ++ [((v24.getD s5.1.toNat default), (v24.getD s5.1.toNat default))]).getD s5.1.toNat default).1 then (v24.getD s5.1.toNat default) else ((s5.2 ++ [((v24.getD s5.1.toNat default), (v24.getD s5.1.toNat default))]).getD s5.1.toNat default).1), (if ((s5.2 ++ [((v24.getD s5.1.toNat default), (v24.getD s5.1.toNat default))]).getD s5.1.toNat default).2 < (v24.getD s5.1.toNat default) then (v24.getD s5.1.toNat default) else ((s5.2 ++ [((v24.getD s5.1.toNat default), (v24.getD s5.1.toNat default))]).getD s5.1.toNat default).2)))
         else .out none
        else .out none
       else .out none
      else .out none
     else if 0 ≤ s5.1 ∧ s5.1 < (s5.2.length : Int) then
      if 0 ≤ s5.1 ∧ s5.1 < (s5.2.length : Int) then
       if 0 ≤ s5.1 ∧ s5.1 < (s5.2.length : Int) then
        .next (IntKind.i64.wrap (s5.1 + 1), s5.2.set s5.1.toNat ((if (v24.getD s5.1.toNat default) < (s5.2.getD s5.1.toNat default).1 then (v24.getD s5.1.toNat default) else (s5.2.getD s5.1.toNat default).1), (if (s5.2.getD s5.1.toNat default).2 < (v24.getD s5.1.toNat default) then (v24.getD s5.1.toNat default) else (s5.2.getD s5.1.toNat default).2)))
        else .out none
       else .out none
      else .out none
    else .out none
   else .out (some (.next (IntKind.i64.wrap (s4.1 + 1), s5.2)))
def b61_7 (s6 : Int × (List (Int × Int))) (v33 : (List (Int))) : (Int × (List (Int × Int))) → Ctl (Int × (List (Int × Int))) (Ctl (Int × (List (Int × Int))) (Ctl (Int × (List (Int × Int))) (Ctl (Int × (List (Int × Int))) ((List (Int × Int)) × Int)))) := fun s7 =>
  if (decide (s7.1 < (v33.length : Int))) = true then
   if 0 ≤ s7.1 ∧ s7.1 < (v33.length : Int) then
    if (s7.1 == (s7.2.length : Int)) = true then
     if (s7.2.length + 1) * 16 ≤ 140737488355328 ∧ s7.2.length + 1 ≤ 9223372036854775807 then
      if 0 ≤ s7.1 ∧ s7.1 < ((s7.2 ++ [((v33.getD s7.1.toNat default), (v33.getD s7.1.toNat default))]).length : Int) then
       if 0 ≤ s7.1 ∧ s7.1 < ((s7.2 ++ [((v33.getD s7.1.toNat default), (v33.getD s7.1.toNat default))]).length : Int) then
        if 0 ≤ s7.1 ∧ s7.1 < ((s7.2 ++ [((v33.getD s7.1.toNat default), (v33.getD s7.1.toNat default))]).length : Int) then
         .next (IntKind.i64.wrap (s7.1 + 1), (s7.2 ++ [((v33.getD s7.1.toNat default), (v33.getD s7.1.toNat default))]).set s7.1.toNat ((if (v33.getD s7.1.toNat default) < ((s7.2 ++ [((v33.getD s7.1.toNat default), (v33.getD s7.1.toNat default))]).getD s7.1.toNat default).1 then (v33.getD s7.1.toNat default) else ((s7.2 ++ [((v33.getD s7.1.toNat default), (v33.getD s7.1.toNat default))]).getD s7.1.toNat default).1), (if ((s7.2 ++ [((v33.getD s7.1.toNat default), (v33.getD s7.1.toNat default))]).getD s7.1.toNat default).2 < (v33.getD s7.1.toNat default) then (v33.getD s7.1.toNat default) else ((s7.2 ++ [((v33.getD s7.1.toNat default), (v33.getD s7.1.toNat default))]).getD s7.1.toNat default).2)))
         else .out none
        else .out none
       else .out none
      else .out none
     else if 0 ≤ s7.1 ∧ s7.1 < (s7.2.length : Int) then
      if 0 ≤ s7.1 ∧ s7.1 < (s7.2.length : Int) then
       if 0 ≤ s7.1 ∧ s7.1 < (s7.2.length : Int) then
        .next (IntKind.i64.wrap (s7.1 + 1), s7.2.set s7.1.toNat ((if (v33.getD s7.1.toNat default) < (s7.2.getD s7.1.toNat default).1 then (v33.getD s7.1.toNat default) else (s7.2.getD s7.1.toNat default).1), (if (s7.2.getD s7.1.toNat default).2 < (v33.getD s7.1.toNat default) then (v33.getD s7.1.toNat default) else (s7.2.getD s7.1.toNat default).2)))
        else .out none
       else .out none
      else .out none
    else .out none
   else .out (some (.next (IntKind.i64.wrap (s6.1 + 1), s7.2)))
def b61_9 (s8 : Int × (List (Int × Int))) (v42 : (List (Int))) : (Int × (List (Int × Int))) → Ctl (Int × (List (Int × Int))) (Ctl (Int × (List (Int × Int))) (Ctl (Int × (List (Int × Int))) (Ctl (Int × (List (Int × Int))) (Ctl (Int × (List (Int × Int))) ((List (Int × Int)) × Int))))) := fun s9 =>
  if (decide (s9.1 < (v42.length : Int))) = true then
   if 0 ≤ s9.1 ∧ s9.1 < (v42.length : Int) then
    if (s9.1 == (s9.2.length : Int)) = true then
     if (s9.2.length + 1) * 16 ≤ 140737488355328 ∧ s9.2.length + 1 ≤ 9223372036854775807 then
      if 0 ≤ s9.1 ∧ s9.1 < ((s9.2 ++ [((v42.getD s9.1.toNat default), (v42.getD s9.1.toNat default))]).length : Int) then
       if 0 ≤ s9.1 ∧ s9.1 < ((s9.2 ++ [((v42.getD s9.1.toNat default), (v42.getD s9.1.toNat default))]).length : Int) then
        if 0 ≤ s9.1 ∧ s9.1 < ((s9.2 ++ [((v42.getD s9.1.toNat default), (v42.getD s9.1.toNat default))]).length : Int) then
         .next (IntKind.i64.wrap (s9.1 + 1), (s9.2 ++ [((v42.getD s9.1.toNat default), (v42.getD s9.1.toNat default))]).set s9.1.toNat ((if (v42.getD s9.1.toNat default) < ((s9.2 ++ [((v42.getD s9.1.toNat default), (v42.getD s9.1.toNat default))]).getD s9.1.toNat default).1 then (v42.getD s9.1.toNat default) else ((s9.2 ++ [((v42.getD s9.1.toNat default), (v42.getD s9.1.toNat default))]).getD s9.1.toNat default).1), (if ((s9.2 ++ [((v42.getD s9.1.toNat default), (v42.getD s9.1.toNat default))]).getD s9.1.toNat default).2 < (v42.getD s9.1.toNat default) then (v42.getD s9.1.toNat default) else ((s9.2 ++ [((v42.getD s9.1.toNat default), (v42.getD s9.1.toNat default))]).getD s9.1.toNat default).2)))
         else .out none
        else .out none
       else .out none
      else .out none
     else if 0 ≤ s9.1 ∧ s9.1 < (s9.2.length : Int) then
      if 0 ≤ s9.1 ∧ s9.1 < (s9.2.length : Int) then
       if 0 ≤ s9.1 ∧ s9.1 < (s9.2.length : Int) then
        .next (IntKind.i64.wrap (s9.1 + 1), s9.2.set s9.1.toNat ((if (v42.getD s9.1.toNat default) < (s9.2.getD s9.1.toNat default).1 then (v42.getD s9.1.toNat default) else (s9.2.getD s9.1.toNat default).1), (if (s9.2.getD s9.1.toNat default).2 < (v42.getD s9.1.toNat default) then (v42.getD s9.1.toNat default) else (s9.2.getD s9.1.toNat default).2)))
        else .out none
       else .out none
      else .out none
    else .out none
   else .out (some (.next (IntKind.i64.wrap (s8.1 + 1), s9.2)))
def b61_10 (a0_2 : List (Int × Int)) (s8 : Int × (List (Int × Int))) : (Unit) → Ctl (Unit) (Ctl (Int × (List (Int × Int))) (Ctl (Int × (List (Int × Int))) (Ctl (Int × (List (Int × Int))) (Ctl (Int × (List (Int × Int))) ((List (Int × Int)) × Int))))) := fun s10 =>
  if (decide (((a0_2.getD 4 default).1) ≤ ((a0_2.getD 4 default).2))) = true then
   if (4 + 1) * 8 ≤ 140737488355328 ∧ 4 + 1 ≤ 9223372036854775807 then
    .out none
    else .out none
   else .out (some (.next (IntKind.i64.wrap (s8.1 + 1), s8.2)))
def b61_8 (a0_2 : List (Int × Int)) (a2 : Int) (v5 : (List (Int)) × (List (Int))) (s2 : Int × (List (Int × Int))) (s4 : Int × (List (Int × Int))) (s6 : Int × (List (Int × Int))) : (Int × (List (Int × Int))) → Ctl (Int × (List (Int × Int))) (Ctl (Int × (List (Int × Int))) (Ctl (Int × (List (Int × Int))) (Ctl (Int × (List (Int × Int))) ((List (Int × Int)) × Int)))) := fun s8 =>
  if (decide (s8.1 ≤ ((a0_2.getD 3 default).2))) = true then
   if (3 + 1) * 8 ≤ 140737488355328 ∧ 3 + 1 ≤ 9223372036854775807 then
    if (4 == (a0_2.length : Int)) = true then
     bindC (r103 (((([s2.1]) ++ [s4.1]) ++ [s6.1]) ++ [s8.1]) v5.2 a2) fun v42 =>
      (iterC (b61_9 s8 v42) 1000000000 (0, s8.2)).getD (.out none)
     else if 0 ≤ 4 ∧ 4 < (a0_2.length : Int) then
      (iterC (b61_10 a0_2 s8) 1000000000 ()).getD (.out none)
      else .out none
    else .out none
   else .out (some (.next (IntKind.i64.wrap (s6.1 + 1), s8.2)))
def b61_6 (a0_2 : List (Int × Int)) (a2 : Int) (v5 : (List (Int)) × (List (Int))) (s2 : Int × (List (Int × Int))) (s4 : Int × (List (Int × Int))) : (Int × (List (Int × Int))) → Ctl (Int × (List (Int × Int))) (Ctl (Int × (List (Int × Int))) (Ctl (Int × (List (Int × Int))) ((List (Int × Int)) × Int))) := fun s6 =>
  if (decide (s6.1 ≤ ((a0_2.getD 2 default).2))) = true then
   if (2 + 1) * 8 ≤ 140737488355328 ∧ 2 + 1 ≤ 9223372036854775807 then
    if (3 == (a0_2.length : Int)) = true then
     bindC (r103 ((([s2.1]) ++ [s4.1]) ++ [s6.1]) v5.2 a2) fun v33 =>
      (iterC (b61_7 s6 v33) 1000000000 (0, s6.2)).getD (.out none)
     else if 0 ≤ 3 ∧ 3 < (a0_2.length : Int) then
      (iterC (b61_8 a0_2 a2 v5 s2 s4 s6) 1000000000 ((a0_2.getD 3 default).1, s6.2)).getD (.out none)
      else .out none
    else .out none
   else .out (some (.next (IntKind.i64.wrap (s4.1 + 1), s6.2)))
def b61_4 (a0_2 : List (Int × Int)) (a2 : Int) (v5 : (List (Int)) × (List (Int))) (s2 : Int × (List (Int × Int))) : (Int × (List (Int × Int))) → Ctl (Int × (List (Int × Int))) (Ctl (Int × (List (Int × Int))) ((List (Int × Int)) × Int)) := fun s4 =>
  if (decide (s4.1 ≤ ((a0_2.getD 1 default).2))) = true then
   if (1 + 1) * 8 ≤ 140737488355328 ∧ 1 + 1 ≤ 9223372036854775807 then
    if (2 == (a0_2.length : Int)) = true then
     bindC (r103 (([s2.1]) ++ [s4.1]) v5.2 a2) fun v24 =>
      (iterC (b61_5 s4 v24) 1000000000 (0, s4.2)).getD (.out none)
     else if 0 ≤ 2 ∧ 2 < (a0_2.length : Int) then
      (iterC (b61_6 a0_2 a2 v5 s2 s4) 1000000000 ((a0_2.getD 2 default).1, s4.2)).getD (.out none)
      else .out none
    else .out none
   else .out (some (.next (IntKind.i64.wrap (s2.1 + 1), s4.2)))
def b61_2 (a0_2 : List (Int × Int)) (a2 : Int) (v5 : (List (Int)) × (List (Int))) : (Int × (List (Int × Int))) → Ctl (Int × (List (Int × Int))) ((List (Int × Int)) × Int) := fun s2 =>
  if (decide (s2.1 ≤ ((a0_2.getD 0 default).2))) = true then
   if (0 + 1) * 8 ≤ 140737488355328 ∧ 0 + 1 ≤ 9223372036854775807 then
    if (1 == (a0_2.length : Int)) = true then
     bindC (r103 [s2.1] v5.2 a2) fun v15 =>
      (iterC (b61_3 s2 v15) 1000000000 (0, s2.2)).getD (.out none)
     else if 0 ≤ 1 ∧ 1 < (a0_2.length : Int) then
      (iterC (b61_4 a0_2 a2 v5 s2) 1000000000 ((a0_2.getD 1 default).1, s2.2)).getD (.out none)
      else .out none
    else .out none
   else .out (some (s2.2, 0))
def r61 (a0_0 : Int) (a0_1 : List (Int × Int × Int)) (a0_2 : List (Int × Int)) (a1_0 : Int) (a1_1 : List (Bool)) (a2 : Int) : Option ((List (Int × Int)) × Int) :=
  (r59 a0_0 a0_1 a0_2).bind fun v1 =>
   (r100 a0_0 a0_1 a1_0 a1_1).bind fun v2 =>
    (r102 a2).bind fun v3 =>
     (r87 [v1.2, v2, v3]).bind fun v4 =>
      if (v4 != 0) = true then
       some ([], v4)
       else (r119 a0_0 a0_1 a1_0 a1_1).bind fun v5 =>
        if (0 == (a0_2.length : Int)) = true then
         (r103 [] v5.2 a2).bind fun v6 =>
          iterC (b61_1 v6) 1000000000 (0, [])
         else if 0 ≤ 0 ∧ 0 < (a0_2.length : Int) then
          iterC (b61_2 a0_2 a2 v5) 1000000000 ((a0_2.getD 0 default).1, [])
          else none
def T61 : TSpec (Int × (List (Int × Int × Int)) × (List (Int × Int)) × Int × (List (Bool)) × Int) where
  enc x := [.agg [.int .i64 x.1, encF 3 d_III x.2.1, encF 2 d_II x.2.2.1], .agg [.int .i64 x.2.2.2.1, encF 1 d_B x.2.2.2.2.1], .c (.int .i64 x.2.2.2.2.2)]
  dec a := (dInt (aCell a 0 0), decF g_III (aCell a 0 1), decF g_II (aCell a 0 2), dInt (aCell a 1 0), decF g_B (aCell a 1 1), dInt (aCell a 2 0))
  pre x := (r61 x.1 x.2.1 x.2.2.1 x.2.2.2.1 x.2.2.2.2.1 x.2.2.2.2.2).isSome = true
  res x := [.c (.own (encF 2 d_II (((r61 x.1 x.2.1 x.2.2.1 x.2.2.2.1 x.2.2.2.2.1 x.2.2.2.2.2).getD default).1))), .c (.d (.int .i64 (((r61 x.1 x.2.1 x.2.2.1 x.2.2.2.1 x.2.2.2.2.1 x.2.2.2.2.2).getD default).2)))]
  al := false
def tb61 : Fns := lk [(59, T59.sp), (87, T87.sp), (100, T100.sp), (102, T102.sp), (103, T103.sp), (119, T119.sp)]
theorem tb61_ok : FnsOk Try.prog tb61 := .cons f59 (.cons f87 (.cons f100 (.cons f102 (.cons f103 (.cons f119 (FnsOk.nil))))))
theorem tb61_59 : tb61 59 = some T59.sp := rfl
theorem tb61_87 : tb61 87 = some T87.sp := rfl
theorem tb61_100 : tb61 100 = some T100.sp := rfl
theorem tb61_102 : tb61 102 = some T102.sp := rfl
theorem tb61_103 : tb61 103 = some T103.sp := rfl
theorem tb61_119 : tb61 119 = some T119.sp := rfl
theorem can_snoc1 {α : Type} [Inhabited α] {s s' : Nat} {f : α → List D} {a0 b : α} {c : List D} (h : eqvDs c (f b)) : Go.Abs.Can s f [a0, b] (D.cat (encF s f [a0]) (D.ofList s' [c])) = True := can_cat (l := [a0]) (r := [b]) (of_eq_true (can_enc _)) (of_eq_true (canW_ofList (by simp only [List.map_cons, List.map_nil, eqvLL]; exact ⟨h, trivial⟩)))
theorem can_snoc2 {α : Type} [Inhabited α] {s s' : Nat} {f : α → List D} {a0 a1 b : α} {c : List D} (h : eqvDs c (f b)) : Go.Abs.Can s f [a0, a1, b] (D.cat (encF s f [a0, a1]) (D.ofList s' [c])) = True := can_cat (l := [a0, a1]) (r := [b]) (of_eq_true (can_enc _)) (of_eq_true (canW_ofList (by simp only [List.map_cons, List.map_nil, eqvLL]; exact ⟨h, trivial⟩)))
theorem can_snoc3 {α : Type} [Inhabited α] {s s' : Nat} {f : α → List D} {a0 a1 a2 b : α} {c : List D} (h : eqvDs c (f b)) : Go.Abs.Can s f [a0, a1, a2, b] (D.cat (encF s f [a0, a1, a2]) (D.ofList s' [c])) = True := can_cat (l := [a0, a1, a2]) (r := [b]) (of_eq_true (can_enc _)) (of_eq_true (canW_ofList (by simp only [List.map_cons, List.map_nil, eqvLL]; exact ⟨h, trivial⟩)))
theorem can_snoc4 {α : Type} [Inhabited α] {s s' : Nat} {f : α → List D} {a0 a1 a2 a3 b : α} {c : List D} (h : eqvDs c (f b)) : Go.Abs.Can s f [a0, a1, a2, a3, b] (D.cat (encF s f [a0, a1, a2, a3]) (D.ofList s' [c])) = True := can_cat (l := [a0, a1, a2, a3]) (r := [b]) (of_eq_true (can_enc _)) (of_eq_true (canW_ofList (by simp only [List.map_cons, List.map_nil, eqvLL]; exact ⟨h, trivial⟩)))
theorem can_snoc5 {α : Type} [Inhabited α] {s s' : Nat} {f : α → List D} {a0 a1 a2 a3 a4 b : α} {c : List D} (h : eqvDs c (f b)) : Go.Abs.Can s f [a0, a1, a2, a3, a4, b] (D.cat (encF s f [a0, a1, a2, a3, a4]) (D.ofList s' [c])) = True := can_cat (l := [a0, a1, a2, a3, a4]) (r := [b]) (of_eq_true (can_enc _)) (of_eq_true (canW_ofList (by simp only [List.map_cons, List.map_nil, eqvLL]; exact ⟨h, trivial⟩)))
attribute [go_sem] can_snoc1 can_snoc2 can_snoc3 can_snoc4 can_snoc5
attribute [local irreducible] r59 r87 r100 r102 r103 r119
theorem v61 : Valid Try.prog 61 T61.sp := by
  refine valid_t (fn := Try.f61) (n := 38) ty_ok tb61_ok Try.func61 rfl Try.ntmps61 ?_
  rintro ⟨a0_0, a0_1, a0_2, a1_0, a1_1, a2⟩ hx
  obtain ⟨r, hr⟩ := Option.isSome_iff_exists.1 (show (r61 a0_0 a0_1 a0_2 a1_0 a1_1 a2).isSome = true from hx)
  have hres : T61.res (a0_0, a0_1, a0_2, a1_0, a1_1, a2) = [.c (.own (encF 2 d_II r.1)), .c (.d (.int .i64 r.2))] := by simp only [T61, hr, Option.getD_some]
  refine ⟨Nat.le_of_ble_eq_true rfl, fun stop S => ?_⟩
  rw [hres] at S
  unfold r61 at hr
  refine S.goB [7] 1000 ?_
  simp (maxSteps := 10000000) only [go_sem, tb61_59, T59, tb61_87, T87, tb61_100, T100, tb61_102, T102, tb61_103, T103, tb61_119, T119, T61, Bool.not_true, Bool.not_false, Option.map_some, Int.reduceToNat, Nat.reduceEqDiff, Nat.reduceLT, Nat.reduceAdd, Nat.reduceMul, Nat.reduceSub, Nat.reduceLeDiff, reduceIte, reduceCtorEq, Try.results61, Try.results120, Try.results121]
  obtain ⟨v1, hv1, hr⟩ := of_bind0 hr
  try simp only [List.cons_append, List.nil_append] at hv1
  obtain ⟨v2, hv2, hr⟩ := of_bind0 hr
  try simp only [List.cons_append, List.nil_append] at hv2
  obtain ⟨v3, hv3, hr⟩ := of_bind0 hr
  try simp only [List.cons_append, List.nil_append] at hv3
  obtain ⟨v4, hv4, hr⟩ := of_bind0 hr
  try simp only [List.cons_append, List.nil_append] at hv4
  try simp only [hv1, hv2, hv3, hv4, Option.getD_some, Option.isSome_some, true_and, and_assoc]
  repeat refine gA ?_
  refine ⟨fun hc => ?_, fun hc => ?_⟩
  · rw [if_pos (by first | exact hc | (rw [hc]; rfl) | (revert hc; simp; done) | simpa using hc | (simp at hc ⊢; omega))] at hr
    repeat refine gA ?_
    obtain rfl := Option.some.inj hr
    (simp (maxDischargeDepth := 8) [go_sem, -List.drop_one])
  · rw [if_neg (by first | exact hc | (rw [hc]; rfl) | (revert hc; simp; done) | simpa using hc | (simp at hc ⊢; omega))] at hr
    obtain ⟨v5, hv5, hr⟩ := of_bind0 hr
    try simp only [List.cons_append, List.nil_append] at hv5
    try simp only [hv5, Option.getD_some, Option.isSome_some, true_and, and_assoc]
    repeat refine gA ?_
    refine S.inl 3 [11] [] Try.func120 (by decide) rfl Try.ntmps120 (fun cx e => drawn_ok ty_ok tb61_ok cx e) (some 36) rfl rfl rfl rfl (Nat.le_of_ble_eq_true rfl) (Nat.le_of_ble_eq_true rfl) ?_
    simp (maxSteps := 10000000) only [go_sem, tb61_59, T59, tb61_87, T87, tb61_100, T100, tb61_102, T102, tb61_103, T103, tb61_119, T119, T61, Bool.not_true, Bool.not_false, Option.map_some, Int.reduceToNat, Nat.reduceEqDiff, Nat.reduceLT, Nat.reduceAdd, Nat.reduceMul, Nat.reduceSub, Nat.reduceLeDiff, reduceIte, reduceCtorEq, Try.results61, Try.results120, Try.results121]
    repeat refine gA ?_
    intro stop1 S1
    refine S1.goB [2, 7, 7] 1000 ?_
    simp (maxSteps := 10000000) only [go_sem, tb61_59, T59, tb61_87, T87, tb61_100, T100, tb61_102, T102, tb61_103, T103, tb61_119, T119, T61, Bool.not_true, Bool.not_false, Option.map_some, Int.reduceToNat, Nat.reduceEqDiff, Nat.reduceLT, Nat.reduceAdd, Nat.reduceMul, Nat.reduceSub, Nat.reduceLeDiff, reduceIte, reduceCtorEq, Try.results61, Try.results120, Try.results121]
    repeat refine gA ?_
    refine ⟨fun hc => ?_, fun hc => ?_⟩
    · rw [if_pos (by first | exact hc | (rw [hc]; rfl) | (revert hc; simp; done) | simpa using hc | (simp at hc ⊢; omega))] at hr
      repeat refine gA ?_
      refine S1.inl 2 [6] [.ref 10 0, .ref 5 0, .ref 11 0] Try.func121 (by decide) rfl Try.ntmps121 (fun cx e => drawn_ok ty_ok tb61_ok cx e) (some 16) rfl rfl rfl rfl (Nat.le_of_ble_eq_true rfl) (Nat.le_of_ble_eq_true rfl) ?_
      simp (maxSteps := 10000000) only [go_sem, tb61_59, T59, tb61_87, T87, tb61_100, T100, tb61_102, T102, tb61_103, T103, tb61_119, T119, T61, Bool.not_true, Bool.not_false, Option.map_some, Int.reduceToNat, Nat.reduceEqDiff, Nat.reduceLT, Nat.reduceAdd, Nat.reduceMul, Nat.reduceSub, Nat.reduceLeDiff, reduceIte, reduceCtorEq, Try.results61, Try.results120, Try.results121]
      repeat refine gA ?_
      intro stop2 S2
      refine S2.goB [7] 1000 ?_
      simp (maxSteps := 10000000) only [go_sem, tb61_59, T59, tb61_87, T87, tb61_100, T100, tb61_102, T102, tb61_103, T103, tb61_119, T119, T61, Bool.not_true, Bool.not_false, Option.map_some, Int.reduceToNat, Nat.reduceEqDiff, Nat.reduceLT, Nat.reduceAdd, Nat.reduceMul, Nat.reduceSub, Nat.reduceLeDiff, reduceIte, reduceCtorEq, Try.results61, Try.results120, Try.results121]
      obtain ⟨v6, hv6, hr⟩ := of_bind0 hr
      try simp only [List.cons_append, List.nil_append] at hv6
      try simp only [hv6, Option.getD_some, Option.isSome_some, true_and, and_assoc]
      repeat refine gA ?_
      refine S2.own0b 11 0 2001100 2 rfl rfl (Nat.le_of_ble_eq_true rfl) rfl ?_
      refine S2.sees [3, 15, 16, 17] [(11, 11)] [(2001100, 2001100), (15, 15)] ?_ (Stop.iter S2 (fun s1 => ⟨[(3, .c (.ref 11 0)), (15, .c (.own 15)), (16, .c (.d (.int .i64 (v6.length : Int)))), (17, .c (.d (.int .i64 s1.1)))], [(11, [.own 2001100])], [(2001100, .owned (encF 2 d_II s1.2)), (15, .owned (encF 1 d_I v6))]⟩) (b61_1 v6) (fun q => q = r) hr rfl ?_)
      · (simp (maxDischargeDepth := 8) [go_sem, -List.drop_one])
      · intro s1 hr
        unfold b61_1 at hr
        refine S2.goB [7] 1000 ?_
        simp (maxSteps := 10000000) only [go_sem, tb61_59, T59, tb61_87, T87, tb61_100, T100, tb61_102, T102, tb61_103, T103, tb61_119, T119, T61, Bool.not_true, Bool.not_false, Option.map_some, Int.reduceToNat, Nat.reduceEqDiff, Nat.reduceLT, Nat.reduceAdd, Nat.reduceMul, Nat.reduceSub, Nat.reduceLeDiff, reduceIte, reduceCtorEq, Try.results61, Try.results120, Try.results121]
        repeat refine gA ?_
        refine ⟨fun hc => ?_, fun hc => ?_⟩
        · rw [if_pos (by first | exact hc | (rw [hc]; rfl) | (revert hc; simp; done) | simpa using hc | (simp at hc ⊢; omega))] at hr
          obtain ⟨hg14, hr⟩ := of_guard1 hr
          repeat refine gA ?_
          refine ⟨fun hc => ?_, fun hc => ?_⟩
          · rw [if_pos (by first | exact hc | (rw [hc]; rfl) | (revert hc; simp; done) | simpa using hc | (simp at hc ⊢; omega))] at hr
            obtain ⟨hg10, hr⟩ := of_guard1 hr
            repeat refine gA ?_
            refine S2.sees [3, 7, 8, 15, 16, 17] [(11, 11)] [(15, 15), (31, 31)] (st' := ⟨[(3, .c (.ref 11 0)), (7, .c (.d (.int .i64 s1.1))), (8, .c (.d (.int .i64 (v6.getD s1.1.toNat default)))), (15, .c (.own 15)), (16, .c (.d (.int .i64 (v6.length : Int)))), (17, .c (.d (.int .i64 s1.1)))], [(11, [.own 31])], [(15, .owned (encF 1 d_I v6)), (31, .owned (encF 2 d_II (s1.2 ++ [((v6.getD s1.1.toNat default), (v6.getD s1.1.toNat default))])))]⟩) ?_ ?_
            · (simp (maxDischargeDepth := 8) [go_sem, -List.drop_one])
            · refine S2.goB [] 1000 ?_
              simp (maxSteps := 10000000) only [go_sem, tb61_59, T59, tb61_87, T87, tb61_100, T100, tb61_102, T102, tb61_103, T103, tb61_119, T119, T61, Bool.not_true, Bool.not_false, Option.map_some, Int.reduceToNat, Nat.reduceEqDiff, Nat.reduceLT, Nat.reduceAdd, Nat.reduceMul, Nat.reduceSub, Nat.reduceLeDiff, reduceIte, reduceCtorEq, Try.results61, Try.results120, Try.results121]
              obtain ⟨hg7, hr⟩ := of_guard1 hr
              obtain ⟨hg8, hr⟩ := of_guard1 hr
              obtain ⟨hg9, hr⟩ := of_guard1 hr
              repeat refine gA ?_
              repeat refine gA ?_
              refine S2.sees [3, 15, 16, 17] [(11, 11)] [(31, 2001100), (15, 15)] ?_ hr
              (simp (maxDischargeDepth := 8) [go_sem, -List.drop_one])
          · rw [if_neg (by first | exact hc | (rw [hc]; rfl) | (revert hc; simp; done) | simpa using hc | (simp at hc ⊢; omega))] at hr
            repeat refine gA ?_
            refine S2.sees [3, 7, 8, 15, 16, 17] [(11, 11)] [(15, 15), (2001100, 2001100)] (st' := ⟨[(3, .c (.ref 11 0)), (7, .c (.d (.int .i64 s1.1))), (8, .c (.d (.int .i64 (v6.getD s1.1.toNat default)))), (15, .c (.own 15)), (16, .c (.d (.int .i64 (v6.length : Int)))), (17, .c (.d (.int .i64 s1.1)))], [(11, [.own 2001100])], [(15, .owned (encF 1 d_I v6)), (2001100, .owned (encF 2 d_II s1.2))]⟩) ?_ ?_
            · (simp (maxDischargeDepth := 8) [go_sem, -List.drop_one])
            · refine S2.goB [] 1000 ?_
              simp (maxSteps := 10000000) only [go_sem, tb61_59, T59, tb61_87, T87, tb61_100, T100, tb61_102, T102, tb61_103, T103, tb61_119, T119, T61, Bool.not_true, Bool.not_false, Option.map_some, Int.reduceToNat, Nat.reduceEqDiff, Nat.reduceLT, Nat.reduceAdd, Nat.reduceMul, Nat.reduceSub, Nat.reduceLeDiff, reduceIte, reduceCtorEq, Try.results61, Try.results120, Try.results121]
              obtain ⟨hg11, hr⟩ := of_guard1 hr
              obtain ⟨hg12, hr⟩ := of_guard1 hr
              obtain ⟨hg13, hr⟩ := of_guard1 hr
              repeat refine gA ?_
              repeat refine gA ?_
              refine S2.sees [3, 15, 16, 17] [(11, 11)] [(2001100, 2001100), (15, 15)] ?_ hr
              (simp (maxDischargeDepth := 8) [go_sem, -List.drop_one])
        · rw [if_neg (by first | exact hc | (rw [hc]; rfl) | (revert hc; simp; done) | simpa using hc | (simp at hc ⊢; omega))] at hr
          repeat refine gA ?_
          have hr := of_out0 hr
          repeat refine gA ?_
          repeat refine gA ?_
          refine S1.goB [2, 7, 7] 1000 ?_
          simp (maxSteps := 10000000) only [go_sem, tb61_59, T59, tb61_87, T87, tb61_100, T100, tb61_102, T102, tb61_103, T103, tb61_119, T119, T61, Bool.not_true, Bool.not_false, Option.map_some, Int.reduceToNat, Nat.reduceEqDiff, Nat.reduceLT, Nat.reduceAdd, Nat.reduceMul, Nat.reduceSub, Nat.reduceLeDiff, reduceIte, reduceCtorEq, Try.results61, Try.results120, Try.results121]
          repeat refine gA ?_
          repeat refine gA ?_
          refine S.goB [7] 1000 ?_
          simp (maxSteps := 10000000) only [go_sem, tb61_59, T59, tb61_87, T87, tb61_100, T100, tb61_102, T102, tb61_103, T103, tb61_119, T119, T61, Bool.not_true, Bool.not_false, Option.map_some, Int.reduceToNat, Nat.reduceEqDiff, Nat.reduceLT, Nat.reduceAdd, Nat.reduceMul, Nat.reduceSub, Nat.reduceLeDiff, reduceIte, reduceCtorEq, Try.results61, Try.results120, Try.results121]
          repeat refine gA ?_
          obtain rfl := Option.some.inj hr
          (simp (maxDischargeDepth := 8) [go_sem, -List.drop_one])
    · rw [if_neg (by first | exact hc | (rw [hc]; rfl) | (revert hc; simp; done) | simpa using hc | (simp at hc ⊢; omega))] at hr
      obtain ⟨hg60, hr⟩ := of_guard0 hr
      repeat refine gA ?_
      refine S1.own0b 11 0 2001100 2 rfl rfl (Nat.le_of_ble_eq_true rfl) rfl ?_
      refine S1.sees [0, 1, 2, 7, 8] [(10, 10), (5, 5), (11, 11), (7, 7)] [(2001100, 2001100), (32, 32), (10032, 10032)] ?_ (Stop.iter S1 (fun s2 => ⟨[(0, .c (.d (encF 2 d_II a0_2))), (1, .c (.nils)), (2, .c (.clo 121 [.ref 10 0, .ref 5 0, .ref 11 0])), (7, .c (.ref 7 0)), (8, .c (.d (.int .i64 s2.1)))], [(10, [.own 32, .own 10032]), (5, [.d (.int .i64 a2)]), (11, [.own 2001100]), (7, [.d (.int .i64 ((a0_2.getD 0 default).1)), .d (.int .i64 ((a0_2.getD 0 default).2))])], [(2001100, .owned (encF 2 d_II s2.2)), (32, .owned (encF 1 d_I v5.1)), (10032, .owned (encF 1 d_I v5.2))]⟩) (b61_2 a0_2 a2 v5) (fun q => q = r) hr rfl ?_)
      · (simp (maxDischargeDepth := 8) [go_sem, -List.drop_one])
      · intro s2 hr
        unfold b61_2 at hr
        refine S1.goB [2, 7, 7] 1000 ?_
        simp (maxSteps := 10000000) only [go_sem, tb61_59, T59, tb61_87, T87, tb61_100, T100, tb61_102, T102, tb61_103, T103, tb61_119, T119, T61, Bool.not_true, Bool.not_false, Option.map_some, Int.reduceToNat, Nat.reduceEqDiff, Nat.reduceLT, Nat.reduceAdd, Nat.reduceMul, Nat.reduceSub, Nat.reduceLeDiff, reduceIte, reduceCtorEq, Try.results61, Try.results120, Try.results121]
        repeat refine gA ?_
        refine ⟨fun hc => ?_, fun hc => ?_⟩
        · rw [if_pos (by first | exact hc | (rw [hc]; rfl) | (revert hc; simp; done) | simpa using hc | (simp at hc ⊢; omega))] at hr
          repeat refine gA ?_
          refine S1.reg0 ?_
          refine S1.opsTo 0 2 (Nat.le_of_ble_eq_true rfl) (Nat.le_of_ble_eq_true rfl) ?_
          simp (maxSteps := 10000000) only [go_sem, tb61_59, T59, tb61_87, T87, tb61_100, T100, tb61_102, T102, tb61_103, T103, tb61_119, T119, T61, Bool.not_true, Bool.not_false, Option.map_some, Int.reduceToNat, Nat.reduceEqDiff, Nat.reduceLT, Nat.reduceAdd, Nat.reduceMul, Nat.reduceSub, Nat.reduceLeDiff, reduceIte, reduceCtorEq, Try.results61, Try.results120, Try.results121]
          repeat refine gA ?_
          refine S1.clipO 2 31 32 rfl rfl rfl rfl (Nat.le_of_ble_eq_true rfl) Try.func133 (by decide) rfl clip133 ?_
          simp (maxSteps := 10000000) only [go_sem, tb61_59, T59, tb61_87, T87, tb61_100, T100, tb61_102, T102, tb61_103, T103, tb61_119, T119, T61, Bool.not_true, Bool.not_false, Option.map_some, Int.reduceToNat, Nat.reduceEqDiff, Nat.reduceLT, Nat.reduceAdd, Nat.reduceMul, Nat.reduceSub, Nat.reduceLeDiff, reduceIte, reduceCtorEq, Try.results61, Try.results120, Try.results121]
          repeat refine gA ?_
          refine S1.opsTo 3 7 (Nat.le_of_ble_eq_true rfl) (Nat.le_of_ble_eq_true rfl) ?_
          simp (maxSteps := 10000000) only [go_sem, tb61_59, T59, tb61_87, T87, tb61_100, T100, tb61_102, T102, tb61_103, T103, tb61_119, T119, T61, Bool.not_true, Bool.not_false, Option.map_some, Int.reduceToNat, Nat.reduceEqDiff, Nat.reduceLT, Nat.reduceAdd, Nat.reduceMul, Nat.reduceSub, Nat.reduceLeDiff, reduceIte, reduceCtorEq, Try.results61, Try.results120, Try.results121]
          obtain ⟨hg59, hr⟩ := of_guard1 hr
          repeat refine gA ?_
          refine S1.inlO 7 [0, 1, 2, 7, 8] [] Try.func120 (by decide) rfl Try.ntmps120 (fun cx e => drawn_ok ty_ok tb61_ok cx e) (some 37) rfl rfl rfl rfl (Nat.le_of_ble_eq_true rfl) (Nat.le_of_ble_eq_true rfl) ?_
          simp (maxSteps := 10000000) only [go_sem, tb61_59, T59, tb61_87, T87, tb61_100, T100, tb61_102, T102, tb61_103, T103, tb61_119, T119, T61, Bool.not_true, Bool.not_false, Option.map_some, Int.reduceToNat, Nat.reduceEqDiff, Nat.reduceLT, Nat.reduceAdd, Nat.reduceMul, Nat.reduceSub, Nat.reduceLeDiff, reduceIte, reduceCtorEq, Try.results61, Try.results120, Try.results121]
          repeat refine gA ?_
          intro stop2 S2
          refine S2.goB [2, 7, 7] 1000 ?_
          simp (maxSteps := 10000000) only [go_sem, tb61_59, T59, tb61_87, T87, tb61_100, T100, tb61_102, T102, tb61_103, T103, tb61_119, T119, T61, Bool.not_true, Bool.not_false, Option.map_some, Int.reduceToNat, Nat.reduceEqDiff, Nat.reduceLT, Nat.reduceAdd, Nat.reduceMul, Nat.reduceSub, Nat.reduceLeDiff, reduceIte, reduceCtorEq, Try.results61, Try.results120, Try.results121]
          repeat refine gA ?_
          refine ⟨fun hc => ?_, fun hc => ?_⟩
          · rw [if_pos (by first | exact hc | (rw [hc]; rfl) | (revert hc; simp; done) | simpa using hc | (simp at hc ⊢; omega))] at hr
            repeat refine gA ?_
            refine S2.inl 2 [6] [.ref 10 0, .ref 5 0, .ref 11 0] Try.func121 (by decide) rfl Try.ntmps121 (fun cx e => drawn_ok ty_ok tb61_ok cx e) (some 16) rfl rfl rfl rfl (Nat.le_of_ble_eq_true rfl) (Nat.le_of_ble_eq_true rfl) ?_
            simp (maxSteps := 10000000) only [go_sem, tb61_59, T59, tb61_87, T87, tb61_100, T100, tb61_102, T102, tb61_103, T103, tb61_119, T119, T61, Bool.not_true, Bool.not_false, Option.map_some, Int.reduceToNat, Nat.reduceEqDiff, Nat.reduceLT, Nat.reduceAdd, Nat.reduceMul, Nat.reduceSub, Nat.reduceLeDiff, reduceIte, reduceCtorEq, Try.results61, Try.results120, Try.results121]
            repeat refine gA ?_
            intro stop3 S3
            refine S3.goB [7] 1000 ?_
            simp (maxSteps := 10000000) only [go_sem, tb61_59, T59, tb61_87, T87, tb61_100, T100, tb61_102, T102, tb61_103, T103, tb61_119, T119, T61, Bool.not_true, Bool.not_false, Option.map_some, Int.reduceToNat, Nat.reduceEqDiff, Nat.reduceLT, Nat.reduceAdd, Nat.reduceMul, Nat.reduceSub, Nat.reduceLeDiff, reduceIte, reduceCtorEq, Try.results61, Try.results120, Try.results121]
            obtain ⟨v15, hv15, hr⟩ := of_bind1 hr
            try simp only [List.cons_append, List.nil_append] at hv15
            try simp only [hv15, Option.getD_some, Option.isSome_some, true_and, and_assoc]
            repeat refine gA ?_
            obtain ⟨q3, hq, hr⟩ := of_iter1 hr
            refine S3.sees [3, 15, 16, 17] [(11, 11), (10, 10), (5, 5), (7, 7)] [(15, 15), (2001100, 2001100), (32, 32), (10032, 10032)] ?_ (Stop.iter S3 (fun s3 => ⟨[(3, .c (.ref 11 0)), (15, .c (.own 15)), (16, .c (.d (.int .i64 (v15.length : Int)))), (17, .c (.d (.int .i64 s3.1)))], [(11, [.own 2001100]), (10, [.own 32, .own 10032]), (5, [.d (.int .i64 a2)]), (7, [.d (.int .i64 ((a0_2.getD 0 default).1)), .d (.int .i64 ((a0_2.getD 0 default).2))])], [(15, .owned (encF 1 d_I v15)), (2001100, .owned (encF 2 d_II s3.2)), (32, .owned (encF 1 d_I v5.1)), (10032, .owned (encF 1 d_I v5.2))]⟩) (b61_3 s2 v15) _ hq hr ?_)
            · (simp (maxDischargeDepth := 8) [go_sem, -List.drop_one])
            · intro s3 hr
              unfold b61_3 at hr
              refine S3.goB [7] 1000 ?_
              simp (maxSteps := 10000000) only [go_sem, tb61_59, T59, tb61_87, T87, tb61_100, T100, tb61_102, T102, tb61_103, T103, tb61_119, T119, T61, Bool.not_true, Bool.not_false, Option.map_some, Int.reduceToNat, Nat.reduceEqDiff, Nat.reduceLT, Nat.reduceAdd, Nat.reduceMul, Nat.reduceSub, Nat.reduceLeDiff, reduceIte, reduceCtorEq, Try.results61, Try.results120, Try.results121]
              repeat refine gA ?_
              refine ⟨fun hc => ?_, fun hc => ?_⟩
              · rw [if_pos (by first | exact hc | (rw [hc]; rfl) | (revert hc; simp; done) | simpa using hc | (simp at hc ⊢; omega))] at hr
                obtain ⟨hg23, hr⟩ := of_guard1 hr
                repeat refine gA ?_
                refine ⟨fun hc => ?_, fun hc => ?_⟩
                · rw [if_pos (by first | exact hc | (rw [hc]; rfl) | (revert hc; simp; done) | simpa using hc | (simp at hc ⊢; omega))] at hr
                  obtain ⟨hg19, hr⟩ := of_guard1 hr
                  repeat refine gA ?_
                  refine S3.sees [3, 7, 8, 15, 16, 17] [(11, 11), (10, 10), (5, 5), (7, 7)] [(15, 15), (31, 31), (32, 32), (10032, 10032)] (st' := ⟨[(3, .c (.ref 11 0)), (7, .c (.d (.int .i64 s3.1))), (8, .c (.d (.int .i64 (v15.getD s3.1.toNat default)))), (15, .c (.own 15)), (16, .c (.d (.int .i64 (v15.length : Int)))), (17, .c (.d (.int .i64 s3.1)))], [(11, [.own 31]), (10, [.own 32, .own 10032]), (5, [.d (.int .i64 a2)]), (7, [.d (.int .i64 ((a0_2.getD 0 default).1)), .d (.int .i64 ((a0_2.getD 0 default).2))])], [(15, .owned (encF 1 d_I v15)), (31, .owned (encF 2 d_II (s3.2 ++ [((v15.getD s3.1.toNat default), (v15.getD s3.1.toNat default))]))), (32, .owned (encF 1 d_I v5.1)), (10032, .owned (encF 1 d_I v5.2))]⟩) ?_ ?_
                  · (simp (maxDischargeDepth := 8) [go_sem, -List.drop_one])
                  · refine S3.goB [] 1000 ?_
                    simp (maxSteps := 10000000) only [go_sem, tb61_59, T59, tb61_87, T87, tb61_100, T100, tb61_102, T102, tb61_103, T103, tb61_119, T119, T61, Bool.not_true, Bool.not_false, Option.map_some, Int.reduceToNat, Nat.reduceEqDiff, Nat.reduceLT, Nat.reduceAdd, Nat.reduceMul, Nat.reduceSub, Nat.reduceLeDiff, reduceIte, reduceCtorEq, Try.results61, Try.results120, Try.results121]
                    obtain ⟨hg16, hr⟩ := of_guard1 hr
                    obtain ⟨hg17, hr⟩ := of_guard1 hr
                    obtain ⟨hg18, hr⟩ := of_guard1 hr
                    repeat refine gA ?_
                    repeat refine gA ?_
                    refine S3.sees [3, 15, 16, 17] [(11, 11), (10, 10), (5, 5), (7, 7)] [(15, 15), (31, 2001100), (32, 32), (10032, 10032)] ?_ hr
                    (simp (maxDischargeDepth := 8) [go_sem, -List.drop_one])
                · rw [if_neg (by first | exact hc | (rw [hc]; rfl) | (revert hc; simp; done) | simpa using hc | (simp at hc ⊢; omega))] at hr
                  repeat refine gA ?_
                  refine S3.sees [3, 7, 8, 15, 16, 17] [(11, 11), (10, 10), (5, 5), (7, 7)] [(15, 15), (2001100, 2001100), (32, 32), (10032, 10032)] (st' := ⟨[(3, .c (.ref 11 0)), (7, .c (.d (.int .i64 s3.1))), (8, .c (.d (.int .i64 (v15.getD s3.1.toNat default)))), (15, .c (.own 15)), (16, .c (.d (.int .i64 (v15.length : Int)))), (17, .c (.d (.int .i64 s3.1)))], [(11, [.own 2001100]), (10, [.own 32, .own 10032]), (5, [.d (.int .i64 a2)]), (7, [.d (.int .i64 ((a0_2.getD 0 default).1)), .d (.int .i64 ((a0_2.getD 0 default).2))])], [(15, .owned (encF 1 d_I v15)), (2001100, .owned (encF 2 d_II s3.2)), (32, .owned (encF 1 d_I v5.1)), (10032, .owned (encF 1 d_I v5.2))]⟩) ?_ ?_
                  · (simp (maxDischargeDepth := 8) [go_sem, -List.drop_one])
                  · refine S3.goB [] 1000 ?_
                    simp (maxSteps := 10000000) only [go_sem, tb61_59, T59, tb61_87, T87, tb61_100, T100, tb61_102, T102, tb61_103, T103, tb61_119, T119, T61, Bool.not_true, Bool.not_false, Option.map_some, Int.reduceToNat, Nat.reduceEqDiff, Nat.reduceLT, Nat.reduceAdd, Nat.reduceMul, Nat.reduceSub, Nat.reduceLeDiff, reduceIte, reduceCtorEq, Try.results61, Try.results120, Try.results121]
                    obtain ⟨hg20, hr⟩ := of_guard1 hr
                    obtain ⟨hg21, hr⟩ := of_guard1 hr
                    obtain ⟨hg22, hr⟩ := of_guard1 hr
                    repeat refine gA ?_
                    repeat refine gA ?_
                    refine S3.sees [3, 15, 16, 17] [(11, 11), (10, 10), (5, 5), (7, 7)] [(15, 15), (2001100, 2001100), (32, 32), (10032, 10032)] ?_ hr
                    (simp (maxDischargeDepth := 8) [go_sem, -List.drop_one])
              · rw [if_neg (by first | exact hc | (rw [hc]; rfl) | (revert hc; simp; done) | simpa using hc | (simp at hc ⊢; omega))] at hr
                repeat refine gA ?_
                replace hr := goodC_out hr
                repeat refine gA ?_
                repeat refine gA ?_
                refine S2.goB [2, 7, 7] 1000 ?_
                simp (maxSteps := 10000000) only [go_sem, tb61_59, T59, tb61_87, T87, tb61_100, T100, tb61_102, T102, tb61_103, T103, tb61_119, T119, T61, Bool.not_true, Bool.not_false, Option.map_some, Int.reduceToNat, Nat.reduceEqDiff, Nat.reduceLT, Nat.reduceAdd, Nat.reduceMul, Nat.reduceSub, Nat.reduceLeDiff, reduceIte, reduceCtorEq, Try.results61, Try.results120, Try.results121]
                repeat refine gA ?_
                repeat refine gA ?_
                refine S1.goB [2, 7, 7] 1000 ?_
                simp (maxSteps := 10000000) only [go_sem, tb61_59, T59, tb61_87, T87, tb61_100, T100, tb61_102, T102, tb61_103, T103, tb61_119, T119, T61, Bool.not_true, Bool.not_false, Option.map_some, Int.reduceToNat, Nat.reduceEqDiff, Nat.reduceLT, Nat.reduceAdd, Nat.reduceMul, Nat.reduceSub, Nat.reduceLeDiff, reduceIte, reduceCtorEq, Try.results61, Try.results120, Try.results121]
                repeat refine gA ?_
                repeat refine gA ?_
                refine S1.sees [0, 1, 2, 7, 8] [(10, 10), (5, 5), (11, 11), (7, 7)] [(2001100, 2001100), (32, 32), (10032, 10032)] ?_ hr
                (simp (maxDischargeDepth := 8) [go_sem, -List.drop_one])
          · rw [if_neg (by first | exact hc | (rw [hc]; rfl) | (revert hc; simp; done) | simpa using hc | (simp at hc ⊢; omega))] at hr
            obtain ⟨hg58, hr⟩ := of_guard1 hr
            repeat refine gA ?_
            refine S2.share 35 rfl ?_
            obtain ⟨q4, hq, hr⟩ := of_iter1 hr
            refine S2.sees [0, 1, 2, 7, 8] [(10, 10), (5, 5), (11, 11), (100007, 100007), (7, 7)] [(35, 35), (32, 32), (10032, 10032), (2001100, 2001100)] ?_ (Stop.iter S2 (fun s4 => ⟨[(0, .c (.d (encF 2 d_II a0_2))), (1, .c (.own 35)), (2, .c (.clo 121 [.ref 10 0, .ref 5 0, .ref 11 0])), (7, .c (.ref 100007 0)), (8, .c (.d (.int .i64 s4.1)))], [(10, [.own 32, .own 10032]), (5, [.d (.int .i64 a2)]), (11, [.own 2001100]), (100007, [.d (.int .i64 ((a0_2.getD 1 default).1)), .d (.int .i64 ((a0_2.getD 1 default).2))]), (7, [.d (.int .i64 ((a0_2.getD 0 default).1)), .d (.int .i64 ((a0_2.getD 0 default).2))])], [(35, .shared (encF 1 d_I ([s2.1]))), (32, .owned (encF 1 d_I v5.1)), (10032, .owned (encF 1 d_I v5.2)), (2001100, .owned (encF 2 d_II s4.2))]⟩) (b61_4 a0_2 a2 v5 s2) _ hq hr ?_)
            · (simp (maxDischargeDepth := 8) [go_sem, -List.drop_one])
            · intro s4 hr
              unfold b61_4 at hr
              refine S2.goB [2, 7, 7] 1000 ?_
              simp (maxSteps := 10000000) only [go_sem, tb61_59, T59, tb61_87, T87, tb61_100, T100, tb61_102, T102, tb61_103, T103, tb61_119, T119, T61, Bool.not_true, Bool.not_false, Option.map_some, Int.reduceToNat, Nat.reduceEqDiff, Nat.reduceLT, Nat.reduceAdd, Nat.reduceMul, Nat.reduceSub, Nat.reduceLeDiff, reduceIte, reduceCtorEq, Try.results61, Try.results120, Try.results121]
              repeat refine gA ?_
              refine ⟨fun hc => ?_, fun hc => ?_⟩
              · rw [if_pos (by first | exact hc | (rw [hc]; rfl) | (revert hc; simp; done) | simpa using hc | (simp at hc ⊢; omega))] at hr
                repeat refine gA ?_
                refine S2.reg0 ?_
                refine S2.opsTo 0 2 (Nat.le_of_ble_eq_true rfl) (Nat.le_of_ble_eq_true rfl) ?_
                simp (maxSteps := 10000000) only [go_sem, tb61_59, T59, tb61_87, T87, tb61_100, T100, tb61_102, T102, tb61_103, T103, tb61_119, T119, T61, Bool.not_true, Bool.not_false, Option.map_some, Int.reduceToNat, Nat.reduceEqDiff, Nat.reduceLT, Nat.reduceAdd, Nat.reduceMul, Nat.reduceSub, Nat.reduceLeDiff, reduceIte, reduceCtorEq, Try.results61, Try.results120, Try.results121]
                repeat refine gA ?_
                refine S2.clipO 2 31 32 rfl rfl rfl rfl (Nat.le_of_ble_eq_true rfl) Try.func133 (by decide) rfl clip133 ?_
                simp (maxSteps := 10000000) only [go_sem, tb61_59, T59, tb61_87, T87, tb61_100, T100, tb61_102, T102, tb61_103, T103, tb61_119, T119, T61, Bool.not_true, Bool.not_false, Option.map_some, Int.reduceToNat, Nat.reduceEqDiff, Nat.reduceLT, Nat.reduceAdd, Nat.reduceMul, Nat.reduceSub, Nat.reduceLeDiff, reduceIte, reduceCtorEq, Try.results61, Try.results120, Try.results121]
                repeat refine gA ?_
                refine S2.opsTo 3 7 (Nat.le_of_ble_eq_true rfl) (Nat.le_of_ble_eq_true rfl) ?_
                simp (maxSteps := 10000000) only [go_sem, tb61_59, T59, tb61_87, T87, tb61_100, T100, tb61_102, T102, tb61_103, T103, tb61_119, T119, T61, Bool.not_true, Bool.not_false, Option.map_some, Int.reduceToNat, Nat.reduceEqDiff, Nat.reduceLT, Nat.reduceAdd, Nat.reduceMul, Nat.reduceSub, Nat.reduceLeDiff, reduceIte, reduceCtorEq, Try.results61, Try.results120, Try.results121]
                obtain ⟨hg57, hr⟩ := of_guard1 hr
                repeat refine gA ?_
                refine S2.inlO 7 [0, 1, 2, 7, 8] [] Try.func120 (by decide) rfl Try.ntmps120 (fun cx e => drawn_ok ty_ok tb61_ok cx e) (some 37) rfl rfl rfl rfl (Nat.le_of_ble_eq_true rfl) (Nat.le_of_ble_eq_true rfl) ?_
                simp (maxSteps := 10000000) only [go_sem, tb61_59, T59, tb61_87, T87, tb61_100, T100, tb61_102, T102, tb61_103, T103, tb61_119, T119, T61, Bool.not_true, Bool.not_false, Option.map_some, Int.reduceToNat, Nat.reduceEqDiff, Nat.reduceLT, Nat.reduceAdd, Nat.reduceMul, Nat.reduceSub, Nat.reduceLeDiff, reduceIte, reduceCtorEq, Try.results61, Try.results120, Try.results121]
                repeat refine gA ?_
                intro stop3 S3
                refine S3.goB [2, 7, 7] 1000 ?_
                simp (maxSteps := 10000000) only [go_sem, tb61_59, T59, tb61_87, T87, tb61_100, T100, tb61_102, T102, tb61_103, T103, tb61_119, T119, T61, Bool.not_true, Bool.not_false, Option.map_some, Int.reduceToNat, Nat.reduceEqDiff, Nat.reduceLT, Nat.reduceAdd, Nat.reduceMul, Nat.reduceSub, Nat.reduceLeDiff, reduceIte, reduceCtorEq, Try.results61, Try.results120, Try.results121]
                repeat refine gA ?_
                refine ⟨fun hc => ?_, fun hc => ?_⟩
                · rw [if_pos (by first | exact hc | (rw [hc]; rfl) | (revert hc; simp; done) | simpa using hc | (simp at hc ⊢; omega))] at hr
                  repeat refine gA ?_
                  refine S3.inl 2 [6] [.ref 10 0, .ref 5 0, .ref 11 0] Try.func121 (by decide) rfl Try.ntmps121 (fun cx e => drawn_ok ty_ok tb61_ok cx e) (some 16) rfl rfl rfl rfl (Nat.le_of_ble_eq_true rfl) (Nat.le_of_ble_eq_true rfl) ?_
                  simp (maxSteps := 10000000) only [go_sem, tb61_59, T59, tb61_87, T87, tb61_100, T100, tb61_102, T102, tb61_103, T103, tb61_119, T119, T61, Bool.not_true, Bool.not_false, Option.map_some, Int.reduceToNat, Nat.reduceEqDiff, Nat.reduceLT, Nat.reduceAdd, Nat.reduceMul, Nat.reduceSub, Nat.reduceLeDiff, reduceIte, reduceCtorEq, Try.results61, Try.results120, Try.results121]
                  repeat refine gA ?_
                  intro stop4 S4
                  refine S4.goB [7] 1000 ?_
                  simp (maxSteps := 10000000) only [go_sem, tb61_59, T59, tb61_87, T87, tb61_100, T100, tb61_102, T102, tb61_103, T103, tb61_119, T119, T61, Bool.not_true, Bool.not_false, Option.map_some, Int.reduceToNat, Nat.reduceEqDiff, Nat.reduceLT, Nat.reduceAdd, Nat.reduceMul, Nat.reduceSub, Nat.reduceLeDiff, reduceIte, reduceCtorEq, Try.results61, Try.results120, Try.results121]
                  obtain ⟨v24, hv24, hr⟩ := of_bind1 hr
                  try simp only [List.cons_append, List.nil_append] at hv24
                  try simp only [hv24, Option.getD_some, Option.isSome_some, true_and, and_assoc]
                  repeat refine gA ?_
                  obtain ⟨q5, hq, hr⟩ := of_iter1 hr
                  refine S4.sees [3, 15, 16, 17] [(11, 11), (10, 10), (5, 5), (100007, 100007), (7, 7)] [(15, 15), (35, 35), (2001100, 2001100), (32, 32), (10032, 10032)] ?_ (Stop.iter S4 (fun s5 => ⟨[(3, .c (.ref 11 0)), (15, .c (.own 15)), (16, .c (.d (.int .i64 (v24.length : Int)))), (17, .c (.d (.int .i64 s5.1)))], [(11, [.own 2001100]), (10, [.own 32, .own 10032]), (5, [.d (.int .i64 a2)]), (100007, [.d (.int .i64 ((a0_2.getD 1 default).1)), .d (.int .i64 ((a0_2.getD 1 default).2))]), (7, [.d (.int .i64 ((a0_2.getD 0 default).1)), .d (.int .i64 ((a0_2.getD 0 default).2))])], [(15, .owned (encF 1 d_I v24)), (35, .shared (encF 1 d_I ([s2.1]))), (2001100, .owned (encF 2 d_II s5.2)), (32, .owned (encF 1 d_I v5.1)), (10032, .owned (encF 1 d_I v5.2))]⟩) (b61_5 s4 v24) _ hq hr ?_)
                  · (simp (maxDischargeDepth := 8) [go_sem, -List.drop_one])
                  · intro s5 hr
                    unfold b61_5 at hr
                    refine S4.goB [7] 1000 ?_
                    simp (maxSteps := 10000000) only [go_sem, tb61_59, T59, tb61_87, T87, tb61_100, T100, tb61_102, T102, tb61_103, T103, tb61_119, T119, T61, Bool.not_true, Bool.not_false, Option.map_some, Int.reduceToNat, Nat.reduceEqDiff, Nat.reduceLT, Nat.reduceAdd, Nat.reduceMul, Nat.reduceSub, Nat.reduceLeDiff, reduceIte, reduceCtorEq, Try.results61, Try.results120, Try.results121]
                    repeat refine gA ?_
                    refine ⟨fun hc => ?_, fun hc => ?_⟩
                    · rw [if_pos (by first | exact hc | (rw [hc]; rfl) | (revert hc; simp; done) | simpa using hc | (simp at hc ⊢; omega))] at hr
                      obtain ⟨hg32, hr⟩ := of_guard1 hr
                      repeat refine gA ?_
                      refine ⟨fun hc => ?_, fun hc => ?_⟩
                      · rw [if_pos (by first | exact hc | (rw [hc]; rfl) | (revert hc; simp; done) | simpa using hc | (simp at hc ⊢; omega))] at hr
                        obtain ⟨hg28, hr⟩ := of_guard1 hr
                        repeat refine gA ?_
                        refine S4.sees [3, 7, 8, 15, 16, 17] [(11, 11), (10, 10), (5, 5), (100007, 100007), (7, 7)] [(15, 15), (35, 35), (31, 31), (32, 32), (10032, 10032)] (st' := ⟨[(3, .c (.ref 11 0)), (7, .c (.d (.int .i64 s5.1))), (8, .c (.d (.int .i64 (v24.getD s5.1.toNat default)))), (15, .c (.own 15)), (16, .c (.d (.int .i64 (v24.length : Int)))), (17, .c (.d (.int .i64 s5.1)))], [(11, [.own 31]), (10, [.own 32, .own 10032]), (5, [.d (.int .i64 a2)]), (100007, [.d (.int .i64 ((a0_2.getD 1 default).1)), .d (.int .i64 ((a0_2.getD 1 default).2))]), (7, [.d (.int .i64 ((a0_2.getD 0 default).1)), .d (.int .i64 ((a0_2.getD 0 default).2))])], [(15, .owned (encF 1 d_I v24)), (35, .shared (encF 1 d_I ([s2.1]))), (31, .owned (encF 2 d_II (s5.2 ++ [((v24.getD s5.1.toNat default), (v24.getD s5.1.toNat default))]))), (32, .owned (encF 1 d_I v5.1)), (10032, .owned (encF 1 d_I v5.2))]⟩) ?_ ?_
                        · (simp (maxDischargeDepth := 8) [go_sem, -List.drop_one])
                        · refine S4.goB [] 1000 ?_
                          simp (maxSteps := 10000000) only [go_sem, tb61_59, T59, tb61_87, T87, tb61_100, T100, tb61_102, T102, tb61_103, T103, tb61_119, T119, T61, Bool.not_true, Bool.not_false, Option.map_some, Int.reduceToNat, Nat.reduceEqDiff, Nat.reduceLT, Nat.reduceAdd, Nat.reduceMul, Nat.reduceSub, Nat.reduceLeDiff, reduceIte, reduceCtorEq, Try.results61, Try.results120, Try.results121]
                          obtain ⟨hg25, hr⟩ := of_guard1 hr
                          obtain ⟨hg26, hr⟩ := of_guard1 hr
                          obtain ⟨hg27, hr⟩ := of_guard1 hr
                          repeat refine gA ?_
                          repeat refine gA ?_
                          refine S4.sees [3, 15, 16, 17] [(11, 11), (10, 10), (5, 5), (100007, 100007), (7, 7)] [(15, 15), (35, 35), (31, 2001100), (32, 32), (10032, 10032)] ?_ hr
                          (simp (maxDischargeDepth := 8) [go_sem, -List.drop_one])
                      · rw [if_neg (by first | exact hc | (rw [hc]; rfl) | (revert hc; simp; done) | simpa using hc | (simp at hc ⊢; omega))] at hr
                        repeat refine gA ?_
                        refine S4.sees [3, 7, 8, 15, 16, 17] [(11, 11), (10, 10), (5, 5), (100007, 100007), (7, 7)] [(15, 15), (35, 35), (2001100, 2001100), (32, 32), (10032, 10032)] (st' := ⟨[(3, .c (.ref 11 0)), (7, .c (.d (.int .i64 s5.1))), (8, .c (.d (.int .i64 (v24.getD s5.1.toNat default)))), (15, .c (.own 15)), (16, .c (.d (.int .i64 (v24.length : Int)))), (17, .c (.d (.int .i64 s5.1)))], [(11, [.own 2001100]), (10, [.own 32, .own 10032]), (5, [.d (.int .i64 a2)]), (100007, [.d (.int .i64 ((a0_2.getD 1 default).1)), .d (.int .i64 ((a0_2.getD 1 default).2))]), (7, [.d (.int .i64 ((a0_2.getD 0 default).1)), .d (.int .i64 ((a0_2.getD 0 default).2))])], [(15, .owned (encF 1 d_I v24)), (35, .shared (encF 1 d_I ([s2.1]))), (2001100, .owned (encF 2 d_II s5.2)), (32, .owned (encF 1 d_I v5.1)), (10032, .owned (encF 1 d_I v5.2))]⟩) ?_ ?_
                        · (simp (maxDischargeDepth := 8) [go_sem, -List.drop_one])
                        · refine S4.goB [] 1000 ?_
                          simp (maxSteps := 10000000) only [go_sem, tb61_59, T59, tb61_87, T87, tb61_100, T100, tb61_102, T102, tb61_103, T103, tb61_119, T119, T61, Bool.not_true, Bool.not_false, Option.map_some, Int.reduceToNat, Nat.reduceEqDiff, Nat.reduceLT, Nat.reduceAdd, Nat.reduceMul, Nat.reduceSub, Nat.reduceLeDiff, reduceIte, reduceCtorEq, Try.results61, Try.results120, Try.results121]
                          obtain ⟨hg29, hr⟩ := of_guard1 hr
                          obtain ⟨hg30, hr⟩ := of_guard1 hr
                          obtain ⟨hg31, hr⟩ := of_guard1 hr
                          repeat refine gA ?_
                          repeat refine gA ?_
                          refine S4.sees [3, 15, 16, 17] [(11, 11), (10, 10), (5, 5), (100007, 100007), (7, 7)] [(15, 15), (35, 35), (2001100, 2001100), (32, 32), (10032, 10032)] ?_ hr
                          (simp (maxDischargeDepth := 8) [go_sem, -List.drop_one])
                    · rw [if_neg (by first | exact hc | (rw [hc]; rfl) | (revert hc; simp; done) | simpa using hc | (simp at hc ⊢; omega))] at hr
                      repeat refine gA ?_
                      replace hr := goodC_out hr
                      repeat refine gA ?_
                      repeat refine gA ?_
                      refine S3.goB [2, 7, 7] 1000 ?_
                      simp (maxSteps := 10000000) only [go_sem, tb61_59, T59, tb61_87, T87, tb61_100, T100, tb61_102, T102, tb61_103, T103, tb61_119, T119, T61, Bool.not_true, Bool.not_false, Option.map_some, Int.reduceToNat, Nat.reduceEqDiff, Nat.reduceLT, Nat.reduceAdd, Nat.reduceMul, Nat.reduceSub, Nat.reduceLeDiff, reduceIte, reduceCtorEq, Try.results61, Try.results120, Try.results121]
                      repeat refine gA ?_
                      repeat refine gA ?_
                      refine S2.goB [2, 7, 7] 1000 ?_
                      simp (maxSteps := 10000000) only [go_sem, tb61_59, T59, tb61_87, T87, tb61_100, T100, tb61_102, T102, tb61_103, T103, tb61_119, T119, T61, Bool.not_true, Bool.not_false, Option.map_some, Int.reduceToNat, Nat.reduceEqDiff, Nat.reduceLT, Nat.reduceAdd, Nat.reduceMul, Nat.reduceSub, Nat.reduceLeDiff, reduceIte, reduceCtorEq, Try.results61, Try.results120, Try.results121]
                      repeat refine gA ?_
                      repeat refine gA ?_
                      refine S2.sees [0, 1, 2, 7, 8] [(10, 10), (5, 5), (11, 11), (100007, 100007), (7, 7)] [(35, 35), (32, 32), (10032, 10032), (2001100, 2001100)] ?_ hr
                      (simp (maxDischargeDepth := 8) [go_sem, -List.drop_one])
                · rw [if_neg (by first | exact hc | (rw [hc]; rfl) | (revert hc; simp; done) | simpa using hc | (simp at hc ⊢; omega))] at hr
                  obtain ⟨hg56, hr⟩ := of_guard1 hr
                  repeat refine gA ?_
                  refine S3.share 100035 rfl ?_
                  obtain ⟨q6, hq, hr⟩ := of_iter1 hr
                  refine S3.sees [0, 1, 2, 7, 8] [(10, 10), (5, 5), (11, 11), (200007, 200007), (100007, 100007), (7, 7)] [(100035, 100035), (35, 35), (32, 32), (10032, 10032), (2001100, 2001100)] ?_ (Stop.iter S3 (fun s6 => ⟨[(0, .c (.d (encF 2 d_II a0_2))), (1, .c (.own 100035)), (2, .c (.clo 121 [.ref 10 0, .ref 5 0, .ref 11 0])), (7, .c (.ref 200007 0)), (8, .c (.d (.int .i64 s6.1)))], [(10, [.own 32, .own 10032]), (5, [.d (.int .i64 a2)]), (11, [.own 2001100]), (200007, [.d (.int .i64 ((a0_2.getD 2 default).1)), .d (.int .i64 ((a0_2.getD 2 default).2))]), (100007, [.d (.int .i64 ((a0_2.getD 1 default).1)), .d (.int .i64 ((a0_2.getD 1 default).2))]), (7, [.d (.int .i64 ((a0_2.getD 0 default).1)), .d (.int .i64 ((a0_2.getD 0 default).2))])], [(100035, .shared (encF 1 d_I (([s2.1]) ++ [s4.1]))), (35, .shared (encF 1 d_I ([s2.1]))), (32, .owned (encF 1 d_I v5.1)), (10032, .owned (encF 1 d_I v5.2)), (2001100, .owned (encF 2 d_II s6.2))]⟩) (b61_6 a0_2 a2 v5 s2 s4) _ hq hr ?_)
                  · (simp (maxDischargeDepth := 8) [go_sem, -List.drop_one])
                  · intro s6 hr
                    unfold b61_6 at hr
                    refine S3.goB [2, 7, 7] 1000 ?_
                    simp (maxSteps := 10000000) only [go_sem, tb61_59, T59, tb61_87, T87, tb61_100, T100, tb61_102, T102, tb61_103, T103, tb61_119, T119, T61, Bool.not_true, Bool.not_false, Option.map_some, Int.reduceToNat, Nat.reduceEqDiff, Nat.reduceLT, Nat.reduceAdd, Nat.reduceMul, Nat.reduceSub, Nat.reduceLeDiff, reduceIte, reduceCtorEq, Try.results61, Try.results120, Try.results121]
                    repeat refine gA ?_
                    refine ⟨fun hc => ?_, fun hc => ?_⟩
                    · rw [if_pos (by first | exact hc | (rw [hc]; rfl) | (revert hc; simp; done) | simpa using hc | (simp at hc ⊢; omega))] at hr
                      repeat refine gA ?_
                      refine S3.reg0 ?_
                      refine S3.opsTo 0 2 (Nat.le_of_ble_eq_true rfl) (Nat.le_of_ble_eq_true rfl) ?_
                      simp (maxSteps := 10000000) only [go_sem, tb61_59, T59, tb61_87, T87, tb61_100, T100, tb61_102, T102, tb61_103, T103, tb61_119, T119, T61, Bool.not_true, Bool.not_false, Option.map_some, Int.reduceToNat, Nat.reduceEqDiff, Nat.reduceLT, Nat.reduceAdd, Nat.reduceMul, Nat.reduceSub, Nat.reduceLeDiff, reduceIte, reduceCtorEq, Try.results61, Try.results120, Try.results121]
                      repeat refine gA ?_
                      refine S3.clipO 2 31 32 rfl rfl rfl rfl (Nat.le_of_ble_eq_true rfl) Try.func133 (by decide) rfl clip133 ?_
                      simp (maxSteps := 10000000) only [go_sem, tb61_59, T59, tb61_87, T87, tb61_100, T100, tb61_102, T102, tb61_103, T103, tb61_119, T119, T61, Bool.not_true, Bool.not_false, Option.map_some, Int.reduceToNat, Nat.reduceEqDiff, Nat.reduceLT, Nat.reduceAdd, Nat.reduceMul, Nat.reduceSub, Nat.reduceLeDiff, reduceIte, reduceCtorEq, Try.results61, Try.results120, Try.results121]
                      repeat refine gA ?_
                      refine S3.opsTo 3 7 (Nat.le_of_ble_eq_true rfl) (Nat.le_of_ble_eq_true rfl) ?_
                      simp (maxSteps := 10000000) only [go_sem, tb61_59, T59, tb61_87, T87, tb61_100, T100, tb61_102, T102, tb61_103, T103, tb61_119, T119, T61, Bool.not_true, Bool.not_false, Option.map_some, Int.reduceToNat, Nat.reduceEqDiff, Nat.reduceLT, Nat.reduceAdd, Nat.reduceMul, Nat.reduceSub, Nat.reduceLeDiff, reduceIte, reduceCtorEq, Try.results61, Try.results120, Try.results121]
                      obtain ⟨hg55, hr⟩ := of_guard1 hr
                      repeat refine gA ?_
                      refine S3.inlO 7 [0, 1, 2, 7, 8] [] Try.func120 (by decide) rfl Try.ntmps120 (fun cx e => drawn_ok ty_ok tb61_ok cx e) (some 37) rfl rfl rfl rfl (Nat.le_of_ble_eq_true rfl) (Nat.le_of_ble_eq_true rfl) ?_
                      simp (maxSteps := 10000000) only [go_sem, tb61_59, T59, tb61_87, T87, tb61_100, T100, tb61_102, T102, tb61_103, T103, tb61_119, T119, T61, Bool.not_true, Bool.not_false, Option.map_some, Int.reduceToNat, Nat.reduceEqDiff, Nat.reduceLT, Nat.reduceAdd, Nat.reduceMul, Nat.reduceSub, Nat.reduceLeDiff, reduceIte, reduceCtorEq, Try.results61, Try.results120, Try.results121]
                      repeat refine gA ?_
                      intro stop4 S4
                      refine S4.goB [2, 7, 7] 1000 ?_
                      simp (maxSteps := 10000000) only [go_sem, tb61_59, T59, tb61_87, T87, tb61_100, T100, tb61_102, T102, tb61_103, T103, tb61_119, T119, T61, Bool.not_true, Bool.not_false, Option.map_some, Int.reduceToNat, Nat.reduceEqDiff, Nat.reduceLT, Nat.reduceAdd, Nat.reduceMul, Nat.reduceSub, Nat.reduceLeDiff, reduceIte, reduceCtorEq, Try.results61, Try.results120, Try.results121]
                      repeat refine gA ?_
                      refine ⟨fun hc => ?_, fun hc => ?_⟩
                      · rw [if_pos (by first | exact hc | (rw [hc]; rfl) | (revert hc; simp; done) | simpa using hc | (simp at hc ⊢; omega))] at hr
                        repeat refine gA ?_
                        refine S4.inl 2 [6] [.ref 10 0, .ref 5 0, .ref 11 0] Try.func121 (by decide) rfl Try.ntmps121 (fun cx e => drawn_ok ty_ok tb61_ok cx e) (some 16) rfl rfl rfl rfl (Nat.le_of_ble_eq_true rfl) (Nat.le_of_ble_eq_true rfl) ?_
                        simp (maxSteps := 10000000) only [go_sem, tb61_59, T59, tb61_87, T87, tb61_100, T100, tb61_102, T102, tb61_103, T103, tb61_119, T119, T61, Bool.not_true, Bool.not_false, Option.map_some, Int.reduceToNat, Nat.reduceEqDiff, Nat.reduceLT, Nat.reduceAdd, Nat.reduceMul, Nat.reduceSub, Nat.reduceLeDiff, reduceIte, reduceCtorEq, Try.results61, Try.results120, Try.results121]
                        repeat refine gA ?_
                        intro stop5 S5
                        refine S5.goB [7] 1000 ?_
                        simp (maxSteps := 10000000) only [go_sem, tb61_59, T59, tb61_87, T87, tb61_100, T100, tb61_102, T102, tb61_103, T103, tb61_119, T119, T61, Bool.not_true, Bool.not_false, Option.map_some, Int.reduceToNat, Nat.reduceEqDiff, Nat.reduceLT, Nat.reduceAdd, Nat.reduceMul, Nat.reduceSub, Nat.reduceLeDiff, reduceIte, reduceCtorEq, Try.results61, Try.results120, Try.results121]
                        obtain ⟨v33, hv33, hr⟩ := of_bind1 hr
                        try simp only [List.cons_append, List.nil_append] at hv33
                        try simp only [hv33, Option.getD_some, Option.isSome_some, true_and, and_assoc]
                        repeat refine gA ?_
                        obtain ⟨q7, hq, hr⟩ := of_iter1 hr
                        refine S5.sees [3, 15, 16, 17] [(11, 11), (10, 10), (5, 5), (200007, 200007), (100007, 100007), (7, 7)] [(15, 15), (100035, 100035), (35, 35), (2001100, 2001100), (32, 32), (10032, 10032)] ?_ (Stop.iter S5 (fun s7 => ⟨[(3, .c (.ref 11 0)), (15, .c (.own 15)), (16, .c (.d (.int .i64 (v33.length : Int)))), (17, .c (.d (.int .i64 s7.1)))], [(11, [.own 2001100]), (10, [.own 32, .own 10032]), (5, [.d (.int .i64 a2)]), (200007, [.d (.int .i64 ((a0_2.getD 2 default).1)), .d (.int .i64 ((a0_2.getD 2 default).2))]), (100007, [.d (.int .i64 ((a0_2.getD 1 default).1)), .d (.int .i64 ((a0_2.getD 1 default).2))]), (7, [.d (.int .i64 ((a0_2.getD 0 default).1)), .d (.int .i64 ((a0_2.getD 0 default).2))])], [(15, .owned (encF 1 d_I v33)), (100035, .shared (encF 1 d_I (([s2.1]) ++ [s4.1]))), (35, .shared (encF 1 d_I ([s2.1]))), (2001100, .owned (encF 2 d_II s7.2)), (32, .owned (encF 1 d_I v5.1)), (10032, .owned (encF 1 d_I v5.2))]⟩) (b61_7 s6 v33) _ hq hr ?_)
                        · (simp (maxDischargeDepth := 8) [go_sem, -List.drop_one])
                        · intro s7 hr
                          unfold b61_7 at hr
                          refine S5.goB [7] 1000 ?_
                          simp (maxSteps := 10000000) only [go_sem, tb61_59, T59, tb61_87, T87, tb61_100, T100, tb61_102, T102, tb61_103, T103, tb61_119, T119, T61, Bool.not_true, Bool.not_false, Option.map_some, Int.reduceToNat, Nat.reduceEqDiff, Nat.reduceLT, Nat.reduceAdd, Nat.reduceMul, Nat.reduceSub, Nat.reduceLeDiff, reduceIte, reduceCtorEq, Try.results61, Try.results120, Try.results121]
                          repeat refine gA ?_
                          refine ⟨fun hc => ?_, fun hc => ?_⟩
                          · rw [if_pos (by first | exact hc | (rw [hc]; rfl) | (revert hc; simp; done) | simpa using hc | (simp at hc ⊢; omega))] at hr
                            obtain ⟨hg41, hr⟩ := of_guard1 hr
                            repeat refine gA ?_
                            refine ⟨fun hc => ?_, fun hc => ?_⟩
                            · rw [if_pos (by first | exact hc | (rw [hc]; rfl) | (revert hc; simp; done) | simpa using hc | (simp at hc ⊢; omega))] at hr
                              obtain ⟨hg37, hr⟩ := of_guard1 hr
                              repeat refine gA ?_
                              refine S5.sees [3, 7, 8, 15, 16, 17] [(11, 11), (10, 10), (5, 5), (200007, 200007), (100007, 100007), (7, 7)] [(15, 15), (100035, 100035), (35, 35), (31, 31), (32, 32), (10032, 10032)] (st' := ⟨[(3, .c (.ref 11 0)), (7, .c (.d (.int .i64 s7.1))), (8, .c (.d (.int .i64 (v33.getD s7.1.toNat default)))), (15, .c (.own 15)), (16, .c (.d (.int .i64 (v33.length : Int)))), (17, .c (.d (.int .i64 s7.1)))], [(11, [.own 31]), (10, [.own 32, .own 10032]), (5, [.d (.int .i64 a2)]), (200007, [.d (.int .i64 ((a0_2.getD 2 default).1)), .d (.int .i64 ((a0_2.getD 2 default).2))]), (100007, [.d (.int .i64 ((a0_2.getD 1 default).1)), .d (.int .i64 ((a0_2.getD 1 default).2))]), (7, [.d (.int .i64 ((a0_2.getD 0 default).1)), .d (.int .i64 ((a0_2.getD 0 default).2))])], [(15, .owned (encF 1 d_I v33)), (100035, .shared (encF 1 d_I (([s2.1]) ++ [s4.1]))), (35, .shared (encF 1 d_I ([s2.1]))), (31, .owned (encF 2 d_II (s7.2 ++ [((v33.getD s7.1.toNat default), (v33.getD s7.1.toNat default))]))), (32, .owned (encF 1 d_I v5.1)), (10032, .owned (encF 1 d_I v5.2))]⟩) ?_ ?_
                              · (simp (maxDischargeDepth := 8) [go_sem, -List.drop_one])
                              · refine S5.goB [] 1000 ?_
                                simp (maxSteps := 10000000) only [go_sem, tb61_59, T59, tb61_87, T87, tb61_100, T100, tb61_102, T102, tb61_103, T103, tb61_119, T119, T61, Bool.not_true, Bool.not_false, Option.map_some, Int.reduceToNat, Nat.reduceEqDiff, Nat.reduceLT, Nat.reduceAdd, Nat.reduceMul, Nat.reduceSub, Nat.reduceLeDiff, reduceIte, reduceCtorEq, Try.results61, Try.results120, Try.results121]
                                obtain ⟨hg34, hr⟩ := of_guard1 hr
                                obtain ⟨hg35, hr⟩ := of_guard1 hr
                                obtain ⟨hg36, hr⟩ := of_guard1 hr
                                repeat refine gA ?_
                                repeat refine gA ?_
                                refine S5.sees [3, 15, 16, 17] [(11, 11), (10, 10), (5, 5), (200007, 200007), (100007, 100007), (7, 7)] [(15, 15), (100035, 100035), (35, 35), (31, 2001100), (32, 32), (10032, 10032)] ?_ hr
                                (simp (maxDischargeDepth := 8) [go_sem, -List.drop_one])
                            · rw [if_neg (by first | exact hc | (rw [hc]; rfl) | (revert hc; simp; done) | simpa using hc | (simp at hc ⊢; omega))] at hr
                              repeat refine gA ?_
                              refine S5.sees [3, 7, 8, 15, 16, 17] [(11, 11), (10, 10), (5, 5), (200007, 200007), (100007, 100007), (7, 7)] [(15, 15), (100035, 100035), (35, 35), (2001100, 2001100), (32, 32), (10032, 10032)] (st' := ⟨[(3, .c (.ref 11 0)), (7, .c (.d (.int .i64 s7.1))), (8, .c (.d (.int .i64 (v33.getD s7.1.toNat default)))), (15, .c (.own 15)), (16, .c (.d (.int .i64 (v33.length : Int)))), (17, .c (.d (.int .i64 s7.1)))], [(11, [.own 2001100]), (10, [.own 32, .own 10032]), (5, [.d (.int .i64 a2)]), (200007, [.d (.int .i64 ((a0_2.getD 2 default).1)), .d (.int .i64 ((a0_2.getD 2 default).2))]), (100007, [.d (.int .i64 ((a0_2.getD 1 default).1)), .d (.int .i64 ((a0_2.getD 1 default).2))]), (7, [.d (.int .i64 ((a0_2.getD 0 default).1)), .d (.int .i64 ((a0_2.getD 0 default).2))])], [(15, .owned (encF 1 d_I v33)), (100035, .shared (encF 1 d_I (([s2.1]) ++ [s4.1]))), (35, .shared (encF 1 d_I ([s2.1]))), (2001100, .owned (encF 2 d_II s7.2)), (32, .owned (encF 1 d_I v5.1)), (10032, .owned (encF 1 d_I v5.2))]⟩) ?_ ?_
                              · (simp (maxDischargeDepth := 8) [go_sem, -List.drop_one])
                              · refine S5.goB [] 1000 ?_
                                simp (maxSteps := 10000000) only [go_sem, tb61_59, T59, tb61_87, T87, tb61_100, T100, tb61_102, T102, tb61_103, T103, tb61_119, T119, T61, Bool.not_true, Bool.not_false, Option.map_some, Int.reduceToNat, Nat.reduceEqDiff, Nat.reduceLT, Nat.reduceAdd, Nat.reduceMul, Nat.reduceSub, Nat.reduceLeDiff, reduceIte, reduceCtorEq, Try.results61, Try.results120, Try.results121]
                                obtain ⟨hg38, hr⟩ := of_guard1 hr
                                obtain ⟨hg39, hr⟩ := of_guard1 hr
                                obtain ⟨hg40, hr⟩ := of_guard1 hr
                                repeat refine gA ?_
                                repeat refine gA ?_
                                refine S5.sees [3, 15, 16, 17] [(11, 11), (10, 10), (5, 5), (200007, 200007), (100007, 100007), (7, 7)] [(15, 15), (100035, 100035), (35, 35), (2001100, 2001100), (32, 32), (10032, 10032)] ?_ hr
                                (simp (maxDischargeDepth := 8) [go_sem, -List.drop_one])
                          · rw [if_neg (by first | exact hc | (rw [hc]; rfl) | (revert hc; simp; done) | simpa using hc | (simp at hc ⊢; omega))] at hr
                            repeat refine gA ?_
                            replace hr := goodC_out hr
                            repeat refine gA ?_
                            repeat refine gA ?_
                            refine S4.goB [2, 7, 7] 1000 ?_
                            simp (maxSteps := 10000000) only [go_sem, tb61_59, T59, tb61_87, T87, tb61_100, T100, tb61_102, T102, tb61_103, T103, tb61_119, T119, T61, Bool.not_true, Bool.not_false, Option.map_some, Int.reduceToNat, Nat.reduceEqDiff, Nat.reduceLT, Nat.reduceAdd, Nat.reduceMul, Nat.reduceSub, Nat.reduceLeDiff, reduceIte, reduceCtorEq, Try.results61, Try.results120, Try.results121]
                            repeat refine gA ?_
                            repeat refine gA ?_
                            refine S3.goB [2, 7, 7] 1000 ?_
                            simp (maxSteps := 10000000) only [go_sem, tb61_59, T59, tb61_87, T87, tb61_100, T100, tb61_102, T102, tb61_103, T103, tb61_119, T119, T61, Bool.not_true, Bool.not_false, Option.map_some, Int.reduceToNat, Nat.reduceEqDiff, Nat.reduceLT, Nat.reduceAdd, Nat.reduceMul, Nat.reduceSub, Nat.reduceLeDiff, reduceIte, reduceCtorEq, Try.results61, Try.results120, Try.results121]
                            repeat refine gA ?_
                            repeat refine gA ?_
                            refine S3.sees [0, 1, 2, 7, 8] [(10, 10), (5, 5), (11, 11), (200007, 200007), (100007, 100007), (7, 7)] [(100035, 100035), (35, 35), (32, 32), (10032, 10032), (2001100, 2001100)] ?_ hr
                            (simp (maxDischargeDepth := 8) [go_sem, -List.drop_one])
                      · rw [if_neg (by first | exact hc | (rw [hc]; rfl) | (revert hc; simp; done) | simpa using hc | (simp at hc ⊢; omega))] at hr
                        obtain ⟨hg54, hr⟩ := of_guard1 hr
                        repeat refine gA ?_
                        refine S4.share 200035 rfl ?_
                        obtain ⟨q8, hq, hr⟩ := of_iter1 hr
                        refine S4.sees [0, 1, 2, 7, 8] [(10, 10), (5, 5), (11, 11), (300007, 300007), (200007, 200007), (100007, 100007), (7, 7)] [(200035, 200035), (100035, 100035), (35, 35), (32, 32), (10032, 10032), (2001100, 2001100)] ?_ (Stop.iter S4 (fun s8 => ⟨[(0, .c (.d (encF 2 d_II a0_2))), (1, .c (.own 200035)), (2, .c (.clo 121 [.ref 10 0, .ref 5 0, .ref 11 0])), (7, .c (.ref 300007 0)), (8, .c (.d (.int .i64 s8.1)))], [(10, [.own 32, .own 10032]), (5, [.d (.int .i64 a2)]), (11, [.own 2001100]), (300007, [.d (.int .i64 ((a0_2.getD 3 default).1)), .d (.int .i64 ((a0_2.getD 3 default).2))]), (200007, [.d (.int .i64 ((a0_2.getD 2 default).1)), .d (.int .i64 ((a0_2.getD 2 default).2))]), (100007, [.d (.int .i64 ((a0_2.getD 1 default).1)), .d (.int .i64 ((a0_2.getD 1 default).2))]), (7, [.d (.int .i64 ((a0_2.getD 0 default).1)), .d (.int .i64 ((a0_2.getD 0 default).2))])], [(200035, .shared (encF 1 d_I ((([s2.1]) ++ [s4.1]) ++ [s6.1]))), (100035, .shared (encF 1 d_I (([s2.1]) ++ [s4.1]))), (35, .shared (encF 1 d_I ([s2.1]))), (32, .owned (encF 1 d_I v5.1)), (10032, .owned (encF 1 d_I v5.2)), (2001100, .owned (encF 2 d_II s8.2))]⟩) (b61_8 a0_2 a2 v5 s2 s4 s6) _ hq hr ?_)
                        · (simp (maxDischargeDepth := 8) [go_sem, -List.drop_one])
                        · intro s8 hr
                          unfold b61_8 at hr
                          refine S4.goB [2, 7, 7] 1000 ?_
                          simp (maxSteps := 10000000) only [go_sem, tb61_59, T59, tb61_87, T87, tb61_100, T100, tb61_102, T102, tb61_103, T103, tb61_119, T119, T61, Bool.not_true, Bool.not_false, Option.map_some, Int.reduceToNat, Nat.reduceEqDiff, Nat.reduceLT, Nat.reduceAdd, Nat.reduceMul, Nat.reduceSub, Nat.reduceLeDiff, reduceIte, reduceCtorEq, Try.results61, Try.results120, Try.results121]
                          repeat refine gA ?_
                          refine ⟨fun hc => ?_, fun hc => ?_⟩
                          · rw [if_pos (by first | exact hc | (rw [hc]; rfl) | (revert hc; simp; done) | simpa using hc | (simp at hc ⊢; omega))] at hr
                            repeat refine gA ?_
                            refine S4.reg0 ?_
                            refine S4.opsTo 0 2 (Nat.le_of_ble_eq_true rfl) (Nat.le_of_ble_eq_true rfl) ?_
                            simp (maxSteps := 10000000) only [go_sem, tb61_59, T59, tb61_87, T87, tb61_100, T100, tb61_102, T102, tb61_103, T103, tb61_119, T119, T61, Bool.not_true, Bool.not_false, Option.map_some, Int.reduceToNat, Nat.reduceEqDiff, Nat.reduceLT, Nat.reduceAdd, Nat.reduceMul, Nat.reduceSub, Nat.reduceLeDiff, reduceIte, reduceCtorEq, Try.results61, Try.results120, Try.results121]
                            repeat refine gA ?_
                            refine S4.clipO 2 31 32 rfl rfl rfl rfl (Nat.le_of_ble_eq_true rfl) Try.func133 (by decide) rfl clip133 ?_
                            simp (maxSteps := 10000000) only [go_sem, tb61_59, T59, tb61_87, T87, tb61_100, T100, tb61_102, T102, tb61_103, T103, tb61_119, T119, T61, Bool.not_true, Bool.not_false, Option.map_some, Int.reduceToNat, Nat.reduceEqDiff, Nat.reduceLT, Nat.reduceAdd, Nat.reduceMul, Nat.reduceSub, Nat.reduceLeDiff, reduceIte, reduceCtorEq, Try.results61, Try.results120, Try.results121]
                            repeat refine gA ?_
                            refine S4.opsTo 3 7 (Nat.le_of_ble_eq_true rfl) (Nat.le_of_ble_eq_true rfl) ?_
                            simp (maxSteps := 10000000) only [go_sem, tb61_59, T59, tb61_87, T87, tb61_100, T100, tb61_102, T102, tb61_103, T103, tb61_119, T119, T61, Bool.not_true, Bool.not_false, Option.map_some, Int.reduceToNat, Nat.reduceEqDiff, Nat.reduceLT, Nat.reduceAdd, Nat.reduceMul, Nat.reduceSub, Nat.reduceLeDiff, reduceIte, reduceCtorEq, Try.results61, Try.results120, Try.results121]
                            obtain ⟨hg53, hr⟩ := of_guard1 hr
                            repeat refine gA ?_
                            refine S4.inlO 7 [0, 1, 2, 7, 8] [] Try.func120 (by decide) rfl Try.ntmps120 (fun cx e => drawn_ok ty_ok tb61_ok cx e) (some 37) rfl rfl rfl rfl (Nat.le_of_ble_eq_true rfl) (Nat.le_of_ble_eq_true rfl) ?_
                            simp (maxSteps := 10000000) only [go_sem, tb61_59, T59, tb61_87, T87, tb61_100, T100, tb61_102, T102, tb61_103, T103, tb61_119, T119, T61, Bool.not_true, Bool.not_false, Option.map_some, Int.reduceToNat, Nat.reduceEqDiff, Nat.reduceLT, Nat.reduceAdd, Nat.reduceMul, Nat.reduceSub, Nat.reduceLeDiff, reduceIte, reduceCtorEq, Try.results61, Try.results120, Try.results121]
                            repeat refine gA ?_
                            intro stop5 S5
                            refine S5.goB [2, 7, 7] 1000 ?_
                            simp (maxSteps := 10000000) only [go_sem, tb61_59, T59, tb61_87, T87, tb61_100, T100, tb61_102, T102, tb61_103, T103, tb61_119, T119, T61, Bool.not_true, Bool.not_false, Option.map_some, Int.reduceToNat, Nat.reduceEqDiff, Nat.reduceLT, Nat.reduceAdd, Nat.reduceMul, Nat.reduceSub, Nat.reduceLeDiff, reduceIte, reduceCtorEq, Try.results61, Try.results120, Try.results121]
                            repeat refine gA ?_
                            refine ⟨fun hc => ?_, fun hc => ?_⟩
                            · rw [if_pos (by first | exact hc | (rw [hc]; rfl) | (revert hc; simp; done) | simpa using hc | (simp at hc ⊢; omega))] at hr
                              repeat refine gA ?_
                              refine S5.inl 2 [6] [.ref 10 0, .ref 5 0, .ref 11 0] Try.func121 (by decide) rfl Try.ntmps121 (fun cx e => drawn_ok ty_ok tb61_ok cx e) (some 16) rfl rfl rfl rfl (Nat.le_of_ble_eq_true rfl) (Nat.le_of_ble_eq_true rfl) ?_
                              simp (maxSteps := 10000000) only [go_sem, tb61_59, T59, tb61_87, T87, tb61_100, T100, tb61_102, T102, tb61_103, T103, tb61_119, T119, T61, Bool.not_true, Bool.not_false, Option.map_some, Int.reduceToNat, Nat.reduceEqDiff, Nat.reduceLT, Nat.reduceAdd, Nat.reduceMul, Nat.reduceSub, Nat.reduceLeDiff, reduceIte, reduceCtorEq, Try.results61, Try.results120, Try.results121]
                              repeat refine gA ?_
                              intro stop6 S6
                              refine S6.goB [7] 1000 ?_
                              simp (maxSteps := 10000000) only [go_sem, tb61_59, T59, tb61_87, T87, tb61_100, T100, tb61_102, T102, tb61_103, T103, tb61_119, T119, T61, Bool.not_true, Bool.not_false, Option.map_some, Int.reduceToNat, Nat.reduceEqDiff, Nat.reduceLT, Nat.reduceAdd, Nat.reduceMul, Nat.reduceSub, Nat.reduceLeDiff, reduceIte, reduceCtorEq, Try.results61, Try.results120, Try.results121]
                              obtain ⟨v42, hv42, hr⟩ := of_bind1 hr
                              try simp only [List.cons_append, List.nil_append] at hv42
                              try simp only [hv42, Option.getD_some, Option.isSome_some, true_and, and_assoc]
                              repeat refine gA ?_
                              obtain ⟨q9, hq, hr⟩ := of_iter1 hr
                              refine S6.sees [3, 15, 16, 17] [(11, 11), (10, 10), (5, 5), (300007, 300007), (200007, 200007), (100007, 100007), (7, 7)] [(15, 15), (200035, 200035), (100035, 100035), (35, 35), (2001100, 2001100), (32, 32), (10032, 10032)] ?_ (Stop.iter S6 (fun s9 => ⟨[(3, .c (.ref 11 0)), (15, .c (.own 15)), (16, .c (.d (.int .i64 (v42.length : Int)))), (17, .c (.d (.int .i64 s9.1)))], [(11, [.own 2001100]), (10, [.own 32, .own 10032]), (5, [.d (.int .i64 a2)]), (300007, [.d (.int .i64 ((a0_2.getD 3 default).1)), .d (.int .i64 ((a0_2.getD 3 default).2))]), (200007, [.d (.int .i64 ((a0_2.getD 2 default).1)), .d (.int .i64 ((a0_2.getD 2 default).2))]), (100007, [.d (.int .i64 ((a0_2.getD 1 default).1)), .d (.int .i64 ((a0_2.getD 1 default).2))]), (7, [.d (.int .i64 ((a0_2.getD 0 default).1)), .d (.int .i64 ((a0_2.getD 0 default).2))])], [(15, .owned (encF 1 d_I v42)), (200035, .shared (encF 1 d_I ((([s2.1]) ++ [s4.1]) ++ [s6.1]))), (100035, .shared (encF 1 d_I (([s2.1]) ++ [s4.1]))), (35, .shared (encF 1 d_I ([s2.1]))), (2001100, .owned (encF 2 d_II s9.2)), (32, .owned (encF 1 d_I v5.1)), (10032, .owned (encF 1 d_I v5.2))]⟩) (b61_9 s8 v42) _ hq hr ?_)
                              · (simp (maxDischargeDepth := 8) [go_sem, -List.drop_one])
                              · intro s9 hr
                                unfold b61_9 at hr
                                refine S6.goB [7] 1000 ?_
                                simp (maxSteps := 10000000) only [go_sem, tb61_59, T59, tb61_87, T87, tb61_100, T100, tb61_102, T102, tb61_103, T103, tb61_119, T119, T61, Bool.not_true, Bool.not_false, Option.map_some, Int.reduceToNat, Nat.reduceEqDiff, Nat.reduceLT, Nat.reduceAdd, Nat.reduceMul, Nat.reduceSub, Nat.reduceLeDiff, reduceIte, reduceCtorEq, Try.results61, Try.results120, Try.results121]
                                repeat refine gA ?_
                                refine ⟨fun hc => ?_, fun hc => ?_⟩
                                · rw [if_pos (by first | exact hc | (rw [hc]; rfl) | (revert hc; simp; done) | simpa using hc | (simp at hc ⊢; omega))] at hr
                                  obtain ⟨hg50, hr⟩ := of_guard1 hr
                                  repeat refine gA ?_
                                  refine ⟨fun hc => ?_, fun hc => ?_⟩
                                  · rw [if_pos (by first | exact hc | (rw [hc]; rfl) | (revert hc; simp; done) | simpa using hc | (simp at hc ⊢; omega))] at hr
                                    obtain ⟨hg46, hr⟩ := of_guard1 hr
                                    repeat refine gA ?_
                                    refine S6.sees [3, 7, 8, 15, 16, 17] [(11, 11), (10, 10), (5, 5), (300007, 300007), (200007, 200007), (100007, 100007), (7, 7)] [(15, 15), (200035, 200035), (100035, 100035), (35, 35), (31, 31), (32, 32), (10032, 10032)] (st' := ⟨[(3, .c (.ref 11 0)), (7, .c (.d (.int .i64 s9.1))), (8, .c (.d (.int .i64 (v42.getD s9.1.toNat default)))), (15, .c (.own 15)), (16, .c (.d (.int .i64 (v42.length : Int)))), (17, .c (.d (.int .i64 s9.1)))], [(11, [.own 31]), (10, [.own 32, .own 10032]), (5, [.d (.int .i64 a2)]), (300007, [.d (.int .i64 ((a0_2.getD 3 default).1)), .d (.int .i64 ((a0_2.getD 3 default).2))]), (200007, [.d (.int .i64 ((a0_2.getD 2 default).1)), .d (.int .i64 ((a0_2.getD 2 default).2))]), (100007, [.d (.int .i64 ((a0_2.getD 1 default).1)), .d (.int .i64 ((a0_2.getD 1 default).2))]), (7, [.d (.int .i64 ((a0_2.getD 0 default).1)), .d (.int .i64 ((a0_2.getD 0 default).2))])], [(15, .owned (encF 1 d_I v42)), (200035, .shared (encF 1 d_I ((([s2.1]) ++ [s4.1]) ++ [s6.1]))), (100035, .shared (encF 1 d_I (([s2.1]) ++ [s4.1]))), (35, .shared (encF 1 d_I ([s2.1]))), (31, .owned (encF 2 d_II (s9.2 ++ [((v42.getD s9.1.toNat default), (v42.getD s9.1.toNat default))]))), (32, .owned (encF 1 d_I v5.1)), (10032, .owned (encF 1 d_I v5.2))]⟩) ?_ ?_
                                    · (simp (maxDischargeDepth := 8) [go_sem, -List.drop_one])
                                    · refine S6.goB [] 1000 ?_
                                      simp (maxSteps := 10000000) only [go_sem, tb61_59, T59, tb61_87, T87, tb61_100, T100, tb61_102, T102, tb61_103, T103, tb61_119, T119, T61, Bool.not_true, Bool.not_false, Option.map_some, Int.reduceToNat, Nat.reduceEqDiff, Nat.reduceLT, Nat.reduceAdd, Nat.reduceMul, Nat.reduceSub, Nat.reduceLeDiff, reduceIte, reduceCtorEq, Try.results61, Try.results120, Try.results121]
                                      obtain ⟨hg43, hr⟩ := of_guard1 hr
                                      obtain ⟨hg44, hr⟩ := of_guard1 hr
                                      obtain ⟨hg45, hr⟩ := of_guard1 hr
                                      repeat refine gA ?_
                                      repeat refine gA ?_
                                      refine S6.sees [3, 15, 16, 17] [(11, 11), (10, 10), (5, 5), (300007, 300007), (200007, 200007), (100007, 100007), (7, 7)] [(15, 15), (200035, 200035), (100035, 100035), (35, 35), (31, 2001100), (32, 32), (10032, 10032)] ?_ hr
                                      (simp (maxDischargeDepth := 8) [go_sem, -List.drop_one])
                                  · rw [if_neg (by first | exact hc | (rw [hc]; rfl) | (revert hc; simp; done) | simpa using hc | (simp at hc ⊢; omega))] at hr
                                    repeat refine gA ?_
                                    refine S6.sees [3, 7, 8, 15, 16, 17] [(11, 11), (10, 10), (5, 5), (300007, 300007), (200007, 200007), (100007, 100007), (7, 7)] [(15, 15), (200035, 200035), (100035, 100035), (35, 35), (2001100, 2001100), (32, 32), (10032, 10032)] (st' := ⟨[(3, .c (.ref 11 0)), (7, .c (.d (.int .i64 s9.1))), (8, .c (.d (.int .i64 (v42.getD s9.1.toNat default)))), (15, .c (.own 15)), (16, .c (.d (.int .i64 (v42.length : Int)))), (17, .c (.d (.int .i64 s9.1)))], [(11, [.own 2001100]), (10, [.own 32, .own 10032]), (5, [.d (.int .i64 a2)]), (300007, [.d (.int .i64 ((a0_2.getD 3 default).1)), .d (.int .i64 ((a0_2.getD 3 default).2))]), (200007, [.d (.int .i64 ((a0_2.getD 2 default).1)), .d (.int .i64 ((a0_2.getD 2 default).2))]), (100007, [.d (.int .i64 ((a0_2.getD 1 default).1)), .d (.int .i64 ((a0_2.getD 1 default).2))]), (7, [.d (.int .i64 ((a0_2.getD 0 default).1)), .d (.int .i64 ((a0_2.getD 0 default).2))])], [(15, .owned (encF 1 d_I v42)), (200035, .shared (encF 1 d_I ((([s2.1]) ++ [s4.1]) ++ [s6.1]))), (100035, .shared (encF 1 d_I (([s2.1]) ++ [s4.1]))), (35, .shared (encF 1 d_I ([s2.1]))), (2001100, .owned (encF 2 d_II s9.2)), (32, .owned (encF 1 d_I v5.1)), (10032, .owned (encF 1 d_I v5.2))]⟩) ?_ ?_
                                    · (simp (maxDischargeDepth := 8) [go_sem, -List.drop_one])
                                    · refine S6.goB [] 1000 ?_
                                      simp (maxSteps := 10000000) only [go_sem, tb61_59, T59, tb61_87, T87, tb61_100, T100, tb61_102, T102, tb61_103, T103, tb61_119, T119, T61, Bool.not_true, Bool.not_false, Option.map_some, Int.reduceToNat, Nat.reduceEqDiff, Nat.reduceLT, Nat.reduceAdd, Nat.reduceMul, Nat.reduceSub, Nat.reduceLeDiff, reduceIte, reduceCtorEq, Try.results61, Try.results120, Try.results121]
                                      obtain ⟨hg47, hr⟩ := of_guard1 hr
                                      obtain ⟨hg48, hr⟩ := of_guard1 hr
                                      obtain ⟨hg49, hr⟩ := of_guard1 hr
                                      repeat refine gA ?_
                                      repeat refine gA ?_
                                      refine S6.sees [3, 15, 16, 17] [(11, 11), (10, 10), (5, 5), (300007, 300007), (200007, 200007), (100007, 100007), (7, 7)] [(15, 15), (200035, 200035), (100035, 100035), (35, 35), (2001100, 2001100), (32, 32), (10032, 10032)] ?_ hr
                                      (simp (maxDischargeDepth := 8) [go_sem, -List.drop_one])
                                · rw [if_neg (by first | exact hc | (rw [hc]; rfl) | (revert hc; simp; done) | simpa using hc | (simp at hc ⊢; omega))] at hr
                                  repeat refine gA ?_
                                  replace hr := goodC_out hr
                                  repeat refine gA ?_
                                  repeat refine gA ?_
                                  refine S5.goB [2, 7, 7] 1000 ?_
                                  simp (maxSteps := 10000000) only [go_sem, tb61_59, T59, tb61_87, T87, tb61_100, T100, tb61_102, T102, tb61_103, T103, tb61_119, T119, T61, Bool.not_true, Bool.not_false, Option.map_some, Int.reduceToNat, Nat.reduceEqDiff, Nat.reduceLT, Nat.reduceAdd, Nat.reduceMul, Nat.reduceSub, Nat.reduceLeDiff, reduceIte, reduceCtorEq, Try.results61, Try.results120, Try.results121]
                                  repeat refine gA ?_
                                  repeat refine gA ?_
                                  refine S4.goB [2, 7, 7] 1000 ?_
                                  simp (maxSteps := 10000000) only [go_sem, tb61_59, T59, tb61_87, T87, tb61_100, T100, tb61_102, T102, tb61_103, T103, tb61_119, T119, T61, Bool.not_true, Bool.not_false, Option.map_some, Int.reduceToNat, Nat.reduceEqDiff, Nat.reduceLT, Nat.reduceAdd, Nat.reduceMul, Nat.reduceSub, Nat.reduceLeDiff, reduceIte, reduceCtorEq, Try.results61, Try.results120, Try.results121]
                                  repeat refine gA ?_
                                  repeat refine gA ?_
                                  refine S4.sees [0, 1, 2, 7, 8] [(10, 10), (5, 5), (11, 11), (300007, 300007), (200007, 200007), (100007, 100007), (7, 7)] [(200035, 200035), (100035, 100035), (35, 35), (32, 32), (10032, 10032), (2001100, 2001100)] ?_ hr
                                  (simp (maxDischargeDepth := 8) [go_sem, -List.drop_one])
                            · rw [if_neg (by first | exact hc | (rw [hc]; rfl) | (revert hc; simp; done) | simpa using hc | (simp at hc ⊢; omega))] at hr
                              obtain ⟨hg52, hr⟩ := of_guard1 hr
                              repeat refine gA ?_
                              obtain ⟨q10, hq, hr⟩ := of_iter1 hr
                              refine S5.sees [0, 1, 2, 7, 8] [(10, 10), (5, 5), (11, 11), (400007, 400007), (300007, 300007), (200007, 200007), (100007, 100007), (7, 7)] [(300035, 300035), (200035, 200035), (100035, 100035), (35, 35), (32, 32), (10032, 10032), (2001100, 2001100)] ?_ (Stop.iter S5 (fun s10 => ⟨[(0, .c (.d (encF 2 d_II a0_2))), (1, .c (.own 300035)), (2, .c (.clo 121 [.ref 10 0, .ref 5 0, .ref 11 0])), (7, .c (.ref 400007 0)), (8, .c (.d (.int .i64 ((a0_2.getD 4 default).1))))], [(10, [.own 32, .own 10032]), (5, [.d (.int .i64 a2)]), (11, [.own 2001100]), (400007, [.d (.int .i64 ((a0_2.getD 4 default).1)), .d (.int .i64 ((a0_2.getD 4 default).2))]), (300007, [.d (.int .i64 ((a0_2.getD 3 default).1)), .d (.int .i64 ((a0_2.getD 3 default).2))]), (200007, [.d (.int .i64 ((a0_2.getD 2 default).1)), .d (.int .i64 ((a0_2.getD 2 default).2))]), (100007, [.d (.int .i64 ((a0_2.getD 1 default).1)), .d (.int .i64 ((a0_2.getD 1 default).2))]), (7, [.d (.int .i64 ((a0_2.getD 0 default).1)), .d (.int .i64 ((a0_2.getD 0 default).2))])], [(300035, .owned (encF 1 d_I (((([s2.1]) ++ [s4.1]) ++ [s6.1]) ++ [s8.1]))), (200035, .shared (encF 1 d_I ((([s2.1]) ++ [s4.1]) ++ [s6.1]))), (100035, .shared (encF 1 d_I (([s2.1]) ++ [s4.1]))), (35, .shared (encF 1 d_I ([s2.1]))), (32, .owned (encF 1 d_I v5.1)), (10032, .owned (encF 1 d_I v5.2)), (2001100, .owned (encF 2 d_II s8.2))]⟩) (b61_10 a0_2 s8) _ hq hr ?_)
                              · (simp (maxDischargeDepth := 8) [go_sem, -List.drop_one])
                              · intro s10 hr
                                unfold b61_10 at hr
                                refine S5.goB [2, 7, 7] 1000 ?_
                                simp (maxSteps := 10000000) only [go_sem, tb61_59, T59, tb61_87, T87, tb61_100, T100, tb61_102, T102, tb61_103, T103, tb61_119, T119, T61, Bool.not_true, Bool.not_false, Option.map_some, Int.reduceToNat, Nat.reduceEqDiff, Nat.reduceLT, Nat.reduceAdd, Nat.reduceMul, Nat.reduceSub, Nat.reduceLeDiff, reduceIte, reduceCtorEq, Try.results61, Try.results120, Try.results121]
                                repeat refine gA ?_
                                refine ⟨fun hc => ?_, fun hc => ?_⟩
                                · rw [if_pos (by first | exact hc | (rw [hc]; rfl) | (revert hc; simp; done) | simpa using hc | (simp at hc ⊢; omega))] at hr
                                  repeat refine gA ?_
                                  refine S5.reg0 ?_
                                  refine S5.opsTo 0 2 (Nat.le_of_ble_eq_true rfl) (Nat.le_of_ble_eq_true rfl) ?_
                                  simp (maxSteps := 10000000) only [go_sem, tb61_59, T59, tb61_87, T87, tb61_100, T100, tb61_102, T102, tb61_103, T103, tb61_119, T119, T61, Bool.not_true, Bool.not_false, Option.map_some, Int.reduceToNat, Nat.reduceEqDiff, Nat.reduceLT, Nat.reduceAdd, Nat.reduceMul, Nat.reduceSub, Nat.reduceLeDiff, reduceIte, reduceCtorEq, Try.results61, Try.results120, Try.results121]
                                  repeat refine gA ?_
                                  refine S5.share 300035 rfl ?_
                                  refine S5.clipO 2 31 32 rfl rfl rfl rfl (Nat.le_of_ble_eq_true rfl) Try.func133 (by decide) rfl clip133 ?_
                                  simp (maxSteps := 10000000) only [go_sem, tb61_59, T59, tb61_87, T87, tb61_100, T100, tb61_102, T102, tb61_103, T103, tb61_119, T119, T61, Bool.not_true, Bool.not_false, Option.map_some, Int.reduceToNat, Nat.reduceEqDiff, Nat.reduceLT, Nat.reduceAdd, Nat.reduceMul, Nat.reduceSub, Nat.reduceLeDiff, reduceIte, reduceCtorEq, Try.results61, Try.results120, Try.results121]
                                  repeat refine gA ?_
                                  refine S5.opsTo 3 7 (Nat.le_of_ble_eq_true rfl) (Nat.le_of_ble_eq_true rfl) ?_
                                  simp (maxSteps := 10000000) only [go_sem, tb61_59, T59, tb61_87, T87, tb61_100, T100, tb61_102, T102, tb61_103, T103, tb61_119, T119, T61, Bool.not_true, Bool.not_false, Option.map_some, Int.reduceToNat, Nat.reduceEqDiff, Nat.reduceLT, Nat.reduceAdd, Nat.reduceMul, Nat.reduceSub, Nat.reduceLeDiff, reduceIte, reduceCtorEq, Try.results61, Try.results120, Try.results121]
                                  obtain ⟨hg51, hr⟩ := of_guard1 hr
                                  repeat refine gA ?_
                                  repeat refine gA ?_
                                  first | cases hr | exact hr.elim
                                · rw [if_neg (by first | exact hc | (rw [hc]; rfl) | (revert hc; simp; done) | simpa using hc | (simp at hc ⊢; omega))] at hr
                                  repeat refine gA ?_
                                  replace hr := goodC_out hr
                                  repeat refine gA ?_
                                  repeat refine gA ?_
                                  refine S4.goB [2, 7, 7] 1000 ?_
                                  simp (maxSteps := 10000000) only [go_sem, tb61_59, T59, tb61_87, T87, tb61_100, T100, tb61_102, T102, tb61_103, T103, tb61_119, T119, T61, Bool.not_true, Bool.not_false, Option.map_some, Int.reduceToNat, Nat.reduceEqDiff, Nat.reduceLT, Nat.reduceAdd, Nat.reduceMul, Nat.reduceSub, Nat.reduceLeDiff, reduceIte, reduceCtorEq, Try.results61, Try.results120, Try.results121]
                                  repeat refine gA ?_
                                  repeat refine gA ?_
                                  refine S4.sees [0, 1, 2, 7, 8] [(10, 10), (5, 5), (11, 11), (300007, 300007), (200007, 200007), (100007, 100007), (7, 7)] [(200035, 200035), (100035, 100035), (35, 35), (32, 32), (10032, 10032), (2001100, 2001100)] ?_ hr
                                  (simp (maxDischargeDepth := 8) [go_sem, -List.drop_one])
                          · rw [if_neg (by first | exact hc | (rw [hc]; rfl) | (revert hc; simp; done) | simpa using hc | (simp at hc ⊢; omega))] at hr
                            repeat refine gA ?_
                            replace hr := goodC_out hr
                            repeat refine gA ?_
                            repeat refine gA ?_
                            refine S3.goB [2, 7, 7] 1000 ?_
                            simp (maxSteps := 10000000) only [go_sem, tb61_59, T59, tb61_87, T87, tb61_100, T100, tb61_102, T102, tb61_103, T103, tb61_119, T119, T61, Bool.not_true, Bool.not_false, Option.map_some, Int.reduceToNat, Nat.reduceEqDiff, Nat.reduceLT, Nat.reduceAdd, Nat.reduceMul, Nat.reduceSub, Nat.reduceLeDiff, reduceIte, reduceCtorEq, Try.results61, Try.results120, Try.results121]
                            repeat refine gA ?_
                            repeat refine gA ?_
                            refine S3.sees [0, 1, 2, 7, 8] [(10, 10), (5, 5), (11, 11), (200007, 200007), (100007, 100007), (7, 7)] [(100035, 100035), (35, 35), (32, 32), (10032, 10032), (2001100, 2001100)] ?_ hr
                            (simp (maxDischargeDepth := 8) [go_sem, -List.drop_one])
                    · rw [if_neg (by first | exact hc | (rw [hc]; rfl) | (revert hc; simp; done) | simpa using hc | (simp at hc ⊢; omega))] at hr
                      repeat refine gA ?_
                      replace hr := goodC_out hr
                      repeat refine gA ?_
                      repeat refine gA ?_
                      refine S2.goB [2, 7, 7] 1000 ?_
                      simp (maxSteps := 10000000) only [go_sem, tb61_59, T59, tb61_87, T87, tb61_100, T100, tb61_102, T102, tb61_103, T103, tb61_119, T119, T61, Bool.not_true, Bool.not_false, Option.map_some, Int.reduceToNat, Nat.reduceEqDiff, Nat.reduceLT, Nat.reduceAdd, Nat.reduceMul, Nat.reduceSub, Nat.reduceLeDiff, reduceIte, reduceCtorEq, Try.results61, Try.results120, Try.results121]
                      repeat refine gA ?_
                      repeat refine gA ?_
                      refine S2.sees [0, 1, 2, 7, 8] [(10, 10), (5, 5), (11, 11), (100007, 100007), (7, 7)] [(35, 35), (32, 32), (10032, 10032), (2001100, 2001100)] ?_ hr
                      (simp (maxDischargeDepth := 8) [go_sem, -List.drop_one])
              · rw [if_neg (by first | exact hc | (rw [hc]; rfl) | (revert hc; simp; done) | simpa using hc | (simp at hc ⊢; omega))] at hr
                repeat refine gA ?_
                replace hr := goodC_out hr
                repeat refine gA ?_
                repeat refine gA ?_
                refine S1.goB [2, 7, 7] 1000 ?_
                simp (maxSteps := 10000000) only [go_sem, tb61_59, T59, tb61_87, T87, tb61_100, T100, tb61_102, T102, tb61_103, T103, tb61_119, T119, T61, Bool.not_true, Bool.not_false, Option.map_some, Int.reduceToNat, Nat.reduceEqDiff, Nat.reduceLT, Nat.reduceAdd, Nat.reduceMul, Nat.reduceSub, Nat.reduceLeDiff, reduceIte, reduceCtorEq, Try.results61, Try.results120, Try.results121]
                repeat refine gA ?_
                repeat refine gA ?_
                refine S1.sees [0, 1, 2, 7, 8] [(10, 10), (5, 5), (11, 11), (7, 7)] [(2001100, 2001100), (32, 32), (10032, 10032)] ?_ hr
                (simp (maxDischargeDepth := 8) [go_sem, -List.drop_one])
        · rw [if_neg (by first | exact hc | (rw [hc]; rfl) | (revert hc; simp; done) | simpa using hc | (simp at hc ⊢; omega))] at hr
          repeat refine gA ?_
          have hr := of_out0 hr
          repeat refine gA ?_
          repeat refine gA ?_
          refine S.goB [7] 1000 ?_
          simp (maxSteps := 10000000) only [go_sem, tb61_59, T59, tb61_87, T87, tb61_100, T100, tb61_102, T102, tb61_103, T103, tb61_119, T119, T61, Bool.not_true, Bool.not_false, Option.map_some, Int.reduceToNat, Nat.reduceEqDiff, Nat.reduceLT, Nat.reduceAdd, Nat.reduceMul, Nat.reduceSub, Nat.reduceLeDiff, reduceIte, reduceCtorEq, Try.results61, Try.results120, Try.results121]
          repeat refine gA ?_
          obtain rfl := Option.some.inj hr
          (simp (maxDischargeDepth := 8) [go_sem, -List.drop_one])
theorem f61 : FnFact Try.prog 61 T61.sp := ⟨⟨Try.f61, Try.func61, by decide, rfl⟩, v61⟩

/- martensite/martensiteref02.CheckClass -/
def b62_1 (a0_2 : List (Int × Int)) : (Int) → Ctl (Int) (Int × Int) := fun s1 =>
  if (decide (s1 < (a0_2.length : Int))) = true then
   if 0 ≤ s1 ∧ s1 < (a0_2.length : Int) then
    bindC (r33 ((a0_2.getD s1.toNat default).1) 1 4) fun v2 =>
     if (!(!v2)) = true → 0 ≤ s1 ∧ s1 < (a0_2.length : Int) then
      if (!(!v2)) = true → (r33 ((a0_2.getD s1.toNat default).2) 1 4).isSome = true then
       if ((!v2) || (!((r33 ((a0_2.getD s1.toNat default).2) 1 4).getD default))) = true then
        .out (some (s1, 2))
        else if 0 ≤ s1 ∧ s1 < (a0_2.length : Int) then
         if 0 ≤ s1 ∧ s1 < (a0_2.length : Int) then
          if (decide (((a0_2.getD s1.toNat default).1) > ((a0_2.getD s1.toNat default).2))) = true then
           .out (some (s1, 9))
           else .next (IntKind.i64.wrap (s1 + 1))
          else .out none
         else .out none
       else .out none
      else .out none
    else .out none
   else .out (some (0, 0))
def r62 (a0_0 : Int) (a0_1 : List (Int × Int × Int)) (a0_2 : List (Int × Int)) : Option (Int × Int) :=
  (r29 a0_0 a0_1).bind fun v1 =>
   if (v1.2 != 0) = true then
    some (v1.1, v1.2)
    else if ((a0_2.length : Int) != (a0_1.length : Int)) = true then
     some (0, 10)
     else iterC (b62_1 a0_2) 1000000000 0
def T62 : TSpec (Int × (List (Int × Int × Int)) × (List (Int × Int))) where
  enc x := [.agg [.int .i64 x.1, encF 3 d_III x.2.1, encF 2 d_II x.2.2]]
  dec a := (dInt (aCell a 0 0), decF g_III (aCell a 0 1), decF g_II (aCell a 0 2))
  pre x := (r62 x.1 x.2.1 x.2.2).isSome = true
  res x := [.c (.d (.int .i64 (((r62 x.1 x.2.1 x.2.2).getD default).1))), .c (.d (.int .i64 (((r62 x.1 x.2.1 x.2.2).getD default).2)))]
  al := false
def tb62 : Fns := lk [(29, T29.sp), (33, T33.sp)]
theorem tb62_ok : FnsOk Try.prog tb62 := .cons f29 (.cons f33 (FnsOk.nil))
theorem tb62_29 : tb62 29 = some T29.sp := rfl
theorem tb62_33 : tb62 33 = some T33.sp := rfl
theorem v62 : Valid Try.prog 62 T62.sp := by
  refine valid_t (fn := Try.f62) (n := 65) ty_ok tb62_ok Try.func62 rfl Try.ntmps62 ?_
  rintro ⟨a0_0, a0_1, a0_2⟩ hx
  obtain ⟨r, hr⟩ := Option.isSome_iff_exists.1 (show (r62 a0_0 a0_1 a0_2).isSome = true from hx)
  have hres : T62.res (a0_0, a0_1, a0_2) = [.c (.d (.int .i64 r.1)), .c (.d (.int .i64 r.2))] := by simp only [T62, hr, Option.getD_some]
  refine ⟨Nat.le_of_ble_eq_true rfl, fun stop S => ?_⟩
  rw [hres] at S
  unfold r62 at hr
  refine S.goB [] 1000 ?_
  simp (maxSteps := 10000000) only [go_sem, tb62_29, T29, tb62_33, T33, T62, Bool.not_true, Bool.not_false, Option.map_some, Int.reduceToNat, Nat.reduceEqDiff, Nat.reduceLT, Nat.reduceAdd, Nat.reduceMul, Nat.reduceSub, Nat.reduceLeDiff, reduceIte, reduceCtorEq, Try.results62]
  obtain ⟨v1, hv1, hr⟩ := of_bind0 hr
  try simp only [hv1, Option.getD_some, Option.isSome_some, true_and, and_assoc]
  repeat refine gA ?_
  refine ⟨fun hc => ?_, fun hc => ?_⟩
  · replace hr := ifP hr hc
    repeat refine gA ?_
    obtain rfl := Option.some.inj hr
    (simp (maxDischargeDepth := 8) [go_sem, -List.drop_one])
  · replace hr := ifN hr hc
    repeat refine gA ?_
    refine ⟨fun hc => ?_, fun hc => ?_⟩
    · replace hr := ifP hr hc
      repeat refine gA ?_
      obtain rfl := Option.some.inj hr
      (simp (maxDischargeDepth := 8) [go_sem, -List.drop_one])
    · replace hr := ifN hr hc
      repeat refine gA ?_
      refine S.sees [1, 6] [(1, 1)] [] ?_ (Stop.iter S (fun s1 => ⟨[(1, .c (.ref 1 0)), (6, .c (.d (.int .i64 s1)))], [(1, [.d (.int .i64 a0_0), .d (encF 3 d_III a0_1), .d (encF 2 d_II a0_2)])], []⟩) (b62_1 a0_2) (fun q => q = r) hr rfl ?_)
      · (simp (maxDischargeDepth := 8) [go_sem, -List.drop_one])
      · intro s1 hr
        unfold b62_1 at hr
        refine S.goB [] 1000 ?_
        simp (maxSteps := 10000000) only [go_sem, tb62_29, T29, tb62_33, T33, T62, Bool.not_true, Bool.not_false, Option.map_some, Int.reduceToNat, Nat.reduceEqDiff, Nat.reduceLT, Nat.reduceAdd, Nat.reduceMul, Nat.reduceSub, Nat.reduceLeDiff, reduceIte, reduceCtorEq, Try.results62]
        repeat refine gA ?_
        refine ⟨fun hc => ?_, fun hc => ?_⟩
        · replace hr := ifP1 hr hc
          obtain ⟨hg5, hr⟩ := of_guard1 hr
          obtain ⟨v2, hv2, hr⟩ := of_bind1 hr
          obtain ⟨hg6, hr⟩ := of_guard1 hr
          obtain ⟨hg7, hr⟩ := of_guard1 hr
          try simp only [hv2, Option.getD_some, Option.isSome_some, true_and, and_assoc]
          repeat (first | refine gG hg6 ?_ | refine gG hg7 ?_ | refine gA ?_ | refine gB ?_)
          refine ⟨fun hc => ?_, fun hc => ?_⟩
          · replace hr := ifP1 hr hc
            repeat refine gA ?_
            have hr := of_out0 hr
            obtain rfl := Option.some.inj hr
            (simp (maxDischargeDepth := 8) [go_sem, -List.drop_one])
          · replace hr := ifN1 hr hc
            obtain ⟨hg3, hr⟩ := of_guard1 hr
            obtain ⟨hg4, hr⟩ := of_guard1 hr
            repeat refine gA ?_
            refine ⟨fun hc => ?_, fun hc => ?_⟩
            · replace hr := ifP1 hr hc
              repeat refine gA ?_
              have hr := of_out0 hr
              obtain rfl := Option.some.inj hr
              (simp (maxDischargeDepth := 8) [go_sem, -List.drop_one])
            · replace hr := ifN1 hr hc
              repeat refine gA ?_
              refine S.sees [1, 6] [(1, 1)] [] ?_ hr
              (simp (maxDischargeDepth := 8) [go_sem, -List.drop_one])
        · replace hr := ifN1 hr hc
          repeat refine gA ?_
          have hr := of_out0 hr
          repeat refine gA ?_
          obtain rfl := Option.some.inj hr
          (simp (maxDischargeDepth := 8) [go_sem, -List.drop_one])
theorem f62 : FnFact Try.prog 62 T62.sp := ⟨⟨Try.f62, Try.func62, by decide, rfl⟩, v62⟩

/- martensite/martensiteref02.Ladders -/
def b122_3 (a0_2 : List (Int × Int)) (s1 : Int × (List (Int × (List (Int × Int × Int))))) (s2 : (List (Int × (List (Int × Int × Int)))) × Int) : (Int × (List (Int × (List (Int × Int × Int))))) → Ctl (Int × (List (Int × (List (Int × Int × Int))))) (Ctl ((List (Int × (List (Int × Int × Int)))) × Int) (Ctl (Int × (List (Int × (List (Int × Int × Int))))) ((List (Int × (List (Int × Int × Int))))))) := fun s3 =>
  if 0 ≤ s1.1 ∧ s1.1 < (a0_2.length : Int) then
   if (decide (s3.1 ≤ ((a0_2.getD s1.1.toNat default).2))) = true then
    if 0 ≤ s2.2 ∧ s2.2 < (s1.2.length : Int) then
     bindC (r19 ((s1.2.getD s2.2.toNat default).1) ((s1.2.getD s2.2.toNat default).2)) fun v2 =>
      if 0 ≤ s1.1 ∧ s1.1 < (v2.2.length : Int) then
       if (s3.2.length + 1) * 32 ≤ 140737488355328 ∧ s3.2.length + 1 ≤ 9223372036854775807 then
        .next (IntKind.i64.wrap (s3.1 + 1), s3.2 ++ [(v2.1, v2.2.set s1.1.toNat (s3.1, (v2.2.getD s1.1.toNat default).2.1, (v2.2.getD s1.1.toNat default).2.2))])
        else .out none
       else .out none
     else .out none
    else .out (some (.next (s3.2, IntKind.i64.wrap (s2.2 + 1))))
   else .out none
def b122_2 (a0_2 : List (Int × Int)) (s1 : Int × (List (Int × (List (Int × Int × Int))))) : ((List (Int × (List (Int × Int × Int)))) × Int) → Ctl ((List (Int × (List (Int × Int × Int)))) × Int) (Ctl (Int × (List (Int × (List (Int × Int × Int))))) ((List (Int × (List (Int × Int × Int)))))) := fun s2 =>
  if (decide (s2.2 < (s1.2.length : Int))) = true then
   if 0 ≤ s1.1 ∧ s1.1 < (a0_2.length : Int) then
    (iterC (b122_3 a0_2 s1 s2) 1000000000 ((a0_2.getD s1.1.toNat default).1, s2.1)).getD (.out none)
    else .out none
   else .out (some (.next (IntKind.i64.wrap (s1.1 + 1), s2.1)))
def b122_1 (a0_2 : List (Int × Int)) : (Int × (List (Int × (List (Int × Int × Int))))) → Ctl (Int × (List (Int × (List (Int × Int × Int))))) ((List (Int × (List (Int × Int × Int))))) := fun s1 =>
  if (decide (s1.1 < (a0_2.length : Int))) = true then
   (iterC (b122_2 a0_2 s1) 1000000000 ([], 0)).getD (.out none)
   else .out (some s1.2)
def r122 (a0_0 : Int) (a0_1 : List (Int × Int × Int)) (a0_2 : List (Int × Int)) : Option ((List (Int × (List (Int × Int × Int))))) :=
  (r19 a0_0 a0_1).bind fun v1 =>
   iterC (b122_1 a0_2) 1000000000 (0, [(v1.1, v1.2)])
def T122 : TSpec (Int × (List (Int × Int × Int)) × (List (Int × Int))) where
  enc x := [.agg [.int .i64 x.1, encF 3 d_III x.2.1, encF 2 d_II x.2.2]]
  dec a := (dInt (aCell a 0 0), decF g_III (aCell a 0 1), decF g_II (aCell a 0 2))
  pre x := (r122 x.1 x.2.1 x.2.2).isSome = true
  res x := [.c (.own (encF 2 d_ILIIIE ((r122 x.1 x.2.1 x.2.2).getD default)))]
  al := true
def tb122 : Fns := lk [(19, T19.sp)]
theorem tb122_ok : FnsOk Try.prog tb122 := .cons f19 (FnsOk.nil)
theorem tb122_19 : tb122 19 = some T19.sp := rfl
theorem v122 : Valid Try.prog 122 T122.sp := by
  refine valid_t (fn := Try.f122) (n := 59) ty_ok tb122_ok Try.func122 rfl Try.ntmps122 ?_
  rintro ⟨a0_0, a0_1, a0_2⟩ hx
  obtain ⟨r, hr⟩ := Option.isSome_iff_exists.1 (show (r122 a0_0 a0_1 a0_2).isSome = true from hx)
  have hres : T122.res (a0_0, a0_1, a0_2) = [.c (.own (encF 2 d_ILIIIE r))] := by simp only [T122, hr, Option.getD_some]
  refine ⟨Nat.le_of_ble_eq_true rfl, fun stop S => ?_⟩
  rw [hres] at S
  unfold r122 at hr
  refine S.goB [] 1000 ?_
  simp (maxSteps := 10000000) only [go_sem, tb122_19, T19, T122, Bool.not_true, Bool.not_false, Option.map_some, Int.reduceToNat, Nat.reduceEqDiff, Nat.reduceLT, Nat.reduceAdd, Nat.reduceMul, Nat.reduceSub, Nat.reduceLeDiff, reduceIte, reduceCtorEq, Try.results122]
  obtain ⟨v1, hv1, hr⟩ := of_bind0 hr
  try simp only [hv1, Option.getD_some, Option.isSome_some, true_and, and_assoc]
  repeat refine gA ?_
  refine S.sees [1, 3, 4] [(1, 1)] [(12, 12)] ?_ (Stop.iter S (fun s1 => ⟨[(1, .c (.ref 1 0)), (3, .c (.own 12)), (4, .c (.d (.int .i64 s1.1)))], [(1, [.d (.int .i64 a0_0), .d (encF 3 d_III a0_1), .d (encF 2 d_II a0_2)])], [(12, .owned (encF 2 d_ILIIIE s1.2))]⟩) (b122_1 a0_2) (fun q => q = r) hr rfl ?_)
  · (simp (maxDischargeDepth := 8) [go_sem, -List.drop_one])
  · intro s1 hr
    unfold b122_1 at hr
    refine S.goB [] 1000 ?_
    simp (maxSteps := 10000000) only [go_sem, tb122_19, T19, T122, Bool.not_true, Bool.not_false, Option.map_some, Int.reduceToNat, Nat.reduceEqDiff, Nat.reduceLT, Nat.reduceAdd, Nat.reduceMul, Nat.reduceSub, Nat.reduceLeDiff, reduceIte, reduceCtorEq, Try.results122]
    repeat refine gA ?_
    refine ⟨fun hc => ?_, fun hc => ?_⟩
    · replace hr := ifP1 hr hc
      repeat refine gA ?_
      refine S.own0 5 1000500 2 rfl rfl ?_
      obtain ⟨q2, hq, hr⟩ := of_iter1 hr
      refine S.sees [1, 3, 4, 5, 6] [(1, 1)] [(1000500, 1000500), (12, 12)] ?_ (Stop.iter S (fun s2 => ⟨[(1, .c (.ref 1 0)), (3, .c (.own 12)), (4, .c (.d (.int .i64 s1.1))), (5, .c (.own 1000500)), (6, .c (.d (.int .i64 s2.2)))], [(1, [.d (.int .i64 a0_0), .d (encF 3 d_III a0_1), .d (encF 2 d_II a0_2)])], [(1000500, .owned (encF 2 d_ILIIIE s2.1)), (12, .owned (encF 2 d_ILIIIE s1.2))]⟩) (b122_2 a0_2 s1) _ hq hr ?_)
      · (simp (maxDischargeDepth := 8) [go_sem, -List.drop_one])
      · intro s2 hr
        unfold b122_2 at hr
        refine S.goB [] 1000 ?_
        simp (maxSteps := 10000000) only [go_sem, tb122_19, T19, T122, Bool.not_true, Bool.not_false, Option.map_some, Int.reduceToNat, Nat.reduceEqDiff, Nat.reduceLT, Nat.reduceAdd, Nat.reduceMul, Nat.reduceSub, Nat.reduceLeDiff, reduceIte, reduceCtorEq, Try.results122]
        repeat refine gA ?_
        refine ⟨fun hc => ?_, fun hc => ?_⟩
        · replace hr := ifP1 hr hc
          obtain ⟨hg7, hr⟩ := of_guard1 hr
          repeat refine gA ?_
          obtain ⟨q3, hq, hr⟩ := of_iter1 hr
          refine S.sees [1, 3, 4, 5, 6, 7] [(1, 1)] [(12, 12), (1000500, 1000500)] ?_ (Stop.iter S (fun s3 => ⟨[(1, .c (.ref 1 0)), (3, .c (.own 12)), (4, .c (.d (.int .i64 s1.1))), (5, .c (.own 1000500)), (6, .c (.d (.int .i64 s2.2))), (7, .c (.d (.int .i64 s3.1)))], [(1, [.d (.int .i64 a0_0), .d (encF 3 d_III a0_1), .d (encF 2 d_II a0_2)])], [(12, .owned (encF 2 d_ILIIIE s1.2)), (1000500, .owned (encF 2 d_ILIIIE s3.2))]⟩) (b122_3 a0_2 s1 s2) _ hq hr ?_)
          · (simp (maxDischargeDepth := 8) [go_sem, -List.drop_one])
          · intro s3 hr
            unfold b122_3 at hr
            refine S.goB [] 1000 ?_
            simp (maxSteps := 10000000) only [go_sem, tb122_19, T19, T122, Bool.not_true, Bool.not_false, Option.map_some, Int.reduceToNat, Nat.reduceEqDiff, Nat.reduceLT, Nat.reduceAdd, Nat.reduceMul, Nat.reduceSub, Nat.reduceLeDiff, reduceIte, reduceCtorEq, Try.results122]
            obtain ⟨hg6, hr⟩ := of_guard1 hr
            repeat refine gA ?_
            refine ⟨fun hc => ?_, fun hc => ?_⟩
            · replace hr := ifP1 hr hc
              obtain ⟨hg3, hr⟩ := of_guard1 hr
              obtain ⟨v2, hv2, hr⟩ := of_bind1 hr
              obtain ⟨hg4, hr⟩ := of_guard1 hr
              obtain ⟨hg5, hr⟩ := of_guard1 hr
              try simp only [hv2, Option.getD_some, Option.isSome_some, true_and, and_assoc]
              repeat refine gA ?_
              refine S.sees [1, 3, 4, 5, 6, 7] [(1, 1)] [(12, 12), (56, 1000500)] ?_ hr
              (simp (maxDischargeDepth := 8) [go_sem, -List.drop_one])
            · replace hr := ifN1 hr hc
              repeat refine gA ?_
              replace hr := goodC_out hr
              repeat refine gA ?_
              refine S.sees [1, 3, 4, 5, 6] [(1, 1)] [(1000500, 1000500), (12, 12)] ?_ hr
              (simp (maxDischargeDepth := 8) [go_sem, -List.drop_one])
        · replace hr := ifN1 hr hc
          repeat refine gA ?_
          replace hr := goodC_out hr
          repeat refine gA ?_
          refine S.sees [1, 3, 4] [(1, 1)] [(1000500, 12)] ?_ hr
          (simp (maxDischargeDepth := 8) [go_sem, -List.drop_one])
    · replace hr := ifN1 hr hc
      repeat refine gA ?_
      have hr := of_out0 hr
      repeat refine gA ?_
      obtain rfl := Option.some.inj hr
      (simp (maxDischargeDepth := 8) [go_sem, -List.drop_one])
theorem f122 : FnFact Try.prog 122 T122.sp := ⟨⟨Try.f122, Try.func122, by decide, rfl⟩, v122⟩

/- martensite/martensiteref02.Ranges -/
def b65_2 (s1 : (List (Int × Int)) × Int) (v2 : (List (Int))) : (Int × (List (Int × Int))) → Ctl (Int × (List (Int × Int))) (Ctl ((List (Int × Int)) × Int) ((List (Int × Int)))) := fun s2 =>
  if (decide (s2.1 < (v2.length : Int))) = true then
   if (s1.2 == 0) = true then
    if 0 ≤ s2.1 ∧ s2.1 < (v2.length : Int) then
     if 0 ≤ s2.1 ∧ s2.1 < (v2.length : Int) then
      if (s2.2.length + 1) * 16 ≤ 140737488355328 ∧ s2.2.length + 1 ≤ 9223372036854775807 then
       if 0 ≤ s2.1 ∧ s2.1 < ((s2.2 ++ [((v2.getD s2.1.toNat default), (v2.getD s2.1.toNat default))]).length : Int) then
        if 0 ≤ s2.1 ∧ s2.1 < (v2.length : Int) then
         if 0 ≤ s2.1 ∧ s2.1 < ((s2.2 ++ [((v2.getD s2.1.toNat default), (v2.getD s2.1.toNat default))]).length : Int) then
          if 0 ≤ s2.1 ∧ s2.1 < (v2.length : Int) then
           if 0 ≤ s2.1 ∧ s2.1 < ((s2.2 ++ [((v2.getD s2.1.toNat default), (v2.getD s2.1.toNat default))]).length : Int) then
            .next (IntKind.i64.wrap (s2.1 + 1), (s2.2 ++ [((v2.getD s2.1.toNat default), (v2.getD s2.1.toNat default))]).set s2.1.toNat ((if (v2.getD s2.1.toNat default) < ((s2.2 ++ [((v2.getD s2.1.toNat default), (v2.getD s2.1.toNat default))]).getD s2.1.toNat default).1 then (v2.getD s2.1.toNat default) else ((s2.2 ++ [((v2.getD s2.1.toNat default), (v2.getD s2.1.toNat default))]).getD s2.1.toNat default).1), (if ((s2.2 ++ [((v2.getD s2.1.toNat default), (v2.getD s2.1.toNat default))]).getD s2.1.toNat default).2 < (v2.getD s2.1.toNat default) then (v2.getD s2.1.toNat default) else ((s2.2 ++ [((v2.getD s2.1.toNat default), (v2.getD s2.1.toNat default))]).getD s2.1.toNat default).2)))
            else .out none
           else .out none
          else .out none
         else .out none
        else .out none
       else .out none
      else .out none
     else .out none
    else if 0 ≤ s2.1 ∧ s2.1 < (s2.2.length : Int) then
     if 0 ≤ s2.1 ∧ s2.1 < (v2.length : Int) then
      if 0 ≤ s2.1 ∧ s2.1 < (s2.2.length : Int) then
       if 0 ≤ s2.1 ∧ s2.1 < (v2.length : Int) then
        if 0 ≤ s2.1 ∧ s2.1 < (s2.2.length : Int) then
         .next (IntKind.i64.wrap (s2.1 + 1), s2.2.set s2.1.toNat ((if (v2.getD s2.1.toNat default) < (s2.2.getD s2.1.toNat default).1 then (v2.getD s2.1.toNat default) else (s2.2.getD s2.1.toNat default).1), (if (s2.2.getD s2.1.toNat default).2 < (v2.getD s2.1.toNat default) then (v2.getD s2.1.toNat default) else (s2.2.getD s2.1.toNat default).2)))
         else .out none
        else .out none
       else .out none
      else .out none
     else .out none
   else .out (some (.next (s2.2, IntKind.i64.wrap (s1.2 + 1))))
def b65_1 (a1_0 : Int) (a1_1 : List (Bool)) (a2 : Int) (v1 : (List (Int × (List (Int × Int × Int))))) : ((List (Int × Int)) × Int) → Ctl ((List (Int × Int)) × Int) ((List (Int × Int))) := fun s1 =>
  if (decide (s1.2 < (v1.length : Int))) = true then
   if 0 ≤ s1.2 ∧ s1.2 < (v1.length : Int) then
    bindC (r51 ((v1.getD s1.2.toNat default).1) ((v1.getD s1.2.toNat default).2) a1_0 a1_1 a2) fun v2 =>
     (iterC (b65_2 s1 v2) 1000000000 (0, s1.1)).getD (.out none)
    else .out none
   else .out (some s1.1)
def r65 (a0_0 : Int) (a0_1 : List (Int × Int × Int)) (a0_2 : List (Int × Int)) (a1_0 : Int) (a1_1 : List (Bool)) (a2 : Int) : Option ((List (Int × Int))) :=
  (r122 a0_0 a0_1 a0_2).bind fun v1 =>
   iterC (b65_1 a1_0 a1_1 a2 v1) 1000000000 ([], 0)
def T65 : TSpec (Int × (List (Int × Int × Int)) × (List (Int × Int)) × Int × (List (Bool)) × Int) where
  enc x := [.agg [.int .i64 x.1, encF 3 d_III x.2.1, encF 2 d_II x.2.2.1], .agg [.int .i64 x.2.2.2.1, encF 1 d_B x.2.2.2.2.1], .c (.int .i64 x.2.2.2.2.2)]
  dec a := (dInt (aCell a 0 0), decF g_III (aCell a 0 1), decF g_II (aCell a 0 2), dInt (aCell a 1 0), decF g_B (aCell a 1 1), dInt (aCell a 2 0))
  pre x := (r65 x.1 x.2.1 x.2.2.1 x.2.2.2.1 x.2.2.2.2.1 x.2.2.2.2.2).isSome = true
  res x := [.c (.own (encF 2 d_II ((r65 x.1 x.2.1 x.2.2.1 x.2.2.2.1 x.2.2.2.2.1 x.2.2.2.2.2).getD default)))]
  al := false
def tb65 : Fns := lk [(51, T51.sp), (122, T122.sp)]
theorem tb65_ok : FnsOk Try.prog tb65 := .cons f51 (.cons f122 (FnsOk.nil))
theorem tb65_51 : tb65 51 = some T51.sp := rfl
theorem tb65_122 : tb65 122 = some T122.sp := rfl
theorem v65 : Valid Try.prog 65 T65.sp := by
  refine valid_t (fn := Try.f65) (n := 72) ty_ok tb65_ok Try.func65 rfl Try.ntmps65 ?_
  rintro ⟨a0_0, a0_1, a0_2, a1_0, a1_1, a2⟩ hx
  obtain ⟨r, hr⟩ := Option.isSome_iff_exists.1 (show (r65 a0_0 a0_1 a0_2 a1_0 a1_1 a2).isSome = true from hx)
  have hres : T65.res (a0_0, a0_1, a0_2, a1_0, a1_1, a2) = [.c (.own (encF 2 d_II r))] := by simp only [T65, hr, Option.getD_some]
  refine ⟨Nat.le_of_ble_eq_true rfl, fun stop S => ?_⟩
  rw [hres] at S
  unfold r65 at hr
  refine S.goB [12] 1000 ?_
  simp (maxSteps := 10000000) only [go_sem, tb65_51, T51, tb65_122, T122, T65, Bool.not_true, Bool.not_false, Option.map_some, Int.reduceToNat, Nat.reduceEqDiff, Nat.reduceLT, Nat.reduceAdd, Nat.reduceMul, Nat.reduceSub, Nat.reduceLeDiff, reduceIte, reduceCtorEq, Try.results65]
  obtain ⟨v1, hv1, hr⟩ := of_bind0 hr
  try simp only [hv1, Option.getD_some, Option.isSome_some, true_and, and_assoc]
  repeat refine gA ?_
  refine S.own0 8 1000800 2 rfl rfl ?_
  refine S.sees [2, 4, 7, 8, 9] [(4, 4)] [(1000800, 1000800), (13, 13)] ?_ (Stop.iter S (fun s1 => ⟨[(2, .c (.d (.int .i64 a2))), (4, .c (.ref 4 0)), (7, .c (.own 13)), (8, .c (.own 1000800)), (9, .c (.d (.int .i64 s1.2)))], [(4, [.d (.int .i64 a1_0), .d (encF 1 d_B a1_1)])], [(1000800, .owned (encF 2 d_II s1.1)), (13, .owned (encF 2 d_ILIIIE v1))]⟩) (b65_1 a1_0 a1_1 a2 v1) (fun q => q = r) hr rfl ?_)
  · (simp (maxDischargeDepth := 8) [go_sem, -List.drop_one])
  · intro s1 hr
    unfold b65_1 at hr
    refine S.goB [12] 1000 ?_
    simp (maxSteps := 10000000) only [go_sem, tb65_51, T51, tb65_122, T122, T65, Bool.not_true, Bool.not_false, Option.map_some, Int.reduceToNat, Nat.reduceEqDiff, Nat.reduceLT, Nat.reduceAdd, Nat.reduceMul, Nat.reduceSub, Nat.reduceLeDiff, reduceIte, reduceCtorEq, Try.results65]
    repeat refine gA ?_
    refine ⟨fun hc => ?_, fun hc => ?_⟩
    · replace hr := ifP1 hr hc
      obtain ⟨hg16, hr⟩ := of_guard1 hr
      obtain ⟨v2, hv2, hr⟩ := of_bind1 hr
      try simp only [hv2, Option.getD_some, Option.isSome_some, true_and, and_assoc]
      repeat refine gA ?_
      obtain ⟨q2, hq, hr⟩ := of_iter1 hr
      refine S.sees [2, 4, 7, 8, 9, 10, 11] [(4, 4)] [(13, 13), (1000800, 1000800), (26, 26)] ?_ (Stop.iter S (fun s2 => ⟨[(2, .c (.d (.int .i64 a2))), (4, .c (.ref 4 0)), (7, .c (.own 13)), (8, .c (.own 1000800)), (9, .c (.d (.int .i64 s1.2))), (10, .c (.own 26)), (11, .c (.d (.int .i64 s2.1)))], [(4, [.d (.int .i64 a1_0), .d (encF 1 d_B a1_1)])], [(13, .owned (encF 2 d_ILIIIE v1)), (1000800, .owned (encF 2 d_II s2.2)), (26, .owned (encF 1 d_I v2))]⟩) (b65_2 s1 v2) _ hq hr ?_)
      · (simp (maxDischargeDepth := 8) [go_sem, -List.drop_one])
      · intro s2 hr
        unfold b65_2 at hr
        refine S.goB [12] 1000 ?_
        simp (maxSteps := 10000000) only [go_sem, tb65_51, T51, tb65_122, T122, T65, Bool.not_true, Bool.not_false, Option.map_some, Int.reduceToNat, Nat.reduceEqDiff, Nat.reduceLT, Nat.reduceAdd, Nat.reduceMul, Nat.reduceSub, Nat.reduceLeDiff, reduceIte, reduceCtorEq, Try.results65]
        repeat refine gA ?_
        refine ⟨fun hc => ?_, fun hc => ?_⟩
        · replace hr := ifP1 hr hc
          repeat refine gA ?_
          refine ⟨fun hc => ?_, fun hc => ?_⟩
          · replace hr := ifP1 hr hc
            obtain ⟨hg8, hr⟩ := of_guard1 hr
            obtain ⟨hg9, hr⟩ := of_guard1 hr
            obtain ⟨hg10, hr⟩ := of_guard1 hr
            repeat refine gA ?_
            refine S.sees [2, 4, 7, 8, 9, 10, 11] [(4, 4)] [(13, 13), (46, 46), (26, 26)] (st' := ⟨[(2, .c (.d (.int .i64 a2))), (4, .c (.ref 4 0)), (7, .c (.own 13)), (8, .c (.own 46)), (9, .c (.d (.int .i64 s1.2))), (10, .c (.own 26)), (11, .c (.d (.int .i64 s2.1)))], [(4, [.d (.int .i64 a1_0), .d (encF 1 d_B a1_1)])], [(13, .owned (encF 2 d_ILIIIE v1)), (46, .owned (encF 2 d_II (s2.2 ++ [((v2.getD s2.1.toNat default), (v2.getD s2.1.toNat default))]))), (26, .owned (encF 1 d_I v2))]⟩) ?_ ?_
            · (simp (maxDischargeDepth := 8) [go_sem, -List.drop_one])
            · refine S.goB [] 1000 ?_
              simp (maxSteps := 10000000) only [go_sem, tb65_51, T51, tb65_122, T122, T65, Bool.not_true, Bool.not_false, Option.map_some, Int.reduceToNat, Nat.reduceEqDiff, Nat.reduceLT, Nat.reduceAdd, Nat.reduceMul, Nat.reduceSub, Nat.reduceLeDiff, reduceIte, reduceCtorEq, Try.results65]
              obtain ⟨hg3, hr⟩ := of_guard1 hr
              obtain ⟨hg4, hr⟩ := of_guard1 hr
              obtain ⟨hg5, hr⟩ := of_guard1 hr
              obtain ⟨hg6, hr⟩ := of_guard1 hr
              obtain ⟨hg7, hr⟩ := of_guard1 hr
              repeat refine gA ?_
              repeat refine gA ?_
              refine S.sees [2, 4, 7, 8, 9, 10, 11] [(4, 4)] [(13, 13), (46, 1000800), (26, 26)] ?_ hr
              (simp (maxDischargeDepth := 8) [go_sem, -List.drop_one])
          · replace hr := ifN1 hr hc
            repeat refine gA ?_
            refine S.sees [2, 4, 7, 8, 9, 10, 11] [(4, 4)] [(13, 13), (1000800, 1000800), (26, 26)] (st' := ⟨[(2, .c (.d (.int .i64 a2))), (4, .c (.ref 4 0)), (7, .c (.own 13)), (8, .c (.own 1000800)), (9, .c (.d (.int .i64 s1.2))), (10, .c (.own 26)), (11, .c (.d (.int .i64 s2.1)))], [(4, [.d (.int .i64 a1_0), .d (encF 1 d_B a1_1)])], [(13, .owned (encF 2 d_ILIIIE v1)), (1000800, .owned (encF 2 d_II s2.2)), (26, .owned (encF 1 d_I v2))]⟩) ?_ ?_
            · (simp (maxDischargeDepth := 8) [go_sem, -List.drop_one])
            · refine S.goB [] 1000 ?_
              simp (maxSteps := 10000000) only [go_sem, tb65_51, T51, tb65_122, T122, T65, Bool.not_true, Bool.not_false, Option.map_some, Int.reduceToNat, Nat.reduceEqDiff, Nat.reduceLT, Nat.reduceAdd, Nat.reduceMul, Nat.reduceSub, Nat.reduceLeDiff, reduceIte, reduceCtorEq, Try.results65]
              obtain ⟨hg11, hr⟩ := of_guard1 hr
              obtain ⟨hg12, hr⟩ := of_guard1 hr
              obtain ⟨hg13, hr⟩ := of_guard1 hr
              obtain ⟨hg14, hr⟩ := of_guard1 hr
              obtain ⟨hg15, hr⟩ := of_guard1 hr
              repeat refine gA ?_
              repeat refine gA ?_
              refine S.sees [2, 4, 7, 8, 9, 10, 11] [(4, 4)] [(13, 13), (1000800, 1000800), (26, 26)] ?_ hr
              (simp (maxDischargeDepth := 8) [go_sem, -List.drop_one])
        · replace hr := ifN1 hr hc
          repeat refine gA ?_
          replace hr := goodC_out hr
          repeat refine gA ?_
          refine S.sees [2, 4, 7, 8, 9] [(4, 4)] [(1000800, 1000800), (13, 13)] ?_ hr
          (simp (maxDischargeDepth := 8) [go_sem, -List.drop_one])
    · replace hr := ifN1 hr hc
      repeat refine gA ?_
      have hr := of_out0 hr
      repeat refine gA ?_
      obtain rfl := Option.some.inj hr
      (simp (maxDischargeDepth := 8) [go_sem, -List.drop_one])
theorem f65 : FnFact Try.prog 65 T65.sp := ⟨⟨Try.f65, Try.func65, by decide, rfl⟩, v65⟩

/- martensite/martensitebase.Ranges -/
def b64_1 (a0 : List (Int × Int)) (a1 : List (Int × Int)) : (Int) → Ctl (Int) (Bool) := fun s1 =>
  if (decide (s1 < (a0.length : Int))) = true then
   if 0 ≤ s1 ∧ s1 < (a0.length : Int) then
    if 0 ≤ s1 ∧ s1 < (a1.length : Int) then
     if (!(((a0.getD s1.toNat default).1 == (a1.getD s1.toNat default).1) && ((a0.getD s1.toNat default).2 == (a1.getD s1.toNat default).2))) = true then
      .out (some false)
      else .next (IntKind.i64.wrap (s1 + 1))
     else .out none
    else .out none
   else .out (some true)
def r64 (a0 : List (Int × Int)) (a1 : List (Int × Int)) : Option (Bool) :=
  if ((a0.length : Int) != (a1.length : Int)) = true then
   some false
   else iterC (b64_1 a0 a1) 1000000000 0
def T64 : TSpec ((List (Int × Int)) × (List (Int × Int))) where
  enc x := [.c (encF 2 d_II x.1), .c (encF 2 d_II x.2)]
  dec a := (decF g_II (aCell a 0 0), decF g_II (aCell a 1 0))
  pre x := (r64 x.1 x.2).isSome = true
  res x := [.c (.d (.bool ((r64 x.1 x.2).getD default)))]
  al := false
def tb64 : Fns := lk []
theorem tb64_ok : FnsOk Try.prog tb64 := FnsOk.nil
theorem v64 : Valid Try.prog 64 T64.sp := by
  refine valid_t (fn := Try.f64) (n := 26) ty_ok tb64_ok Try.func64 rfl Try.ntmps64 ?_
  rintro ⟨a0, a1⟩ hx
  obtain ⟨r, hr⟩ := Option.isSome_iff_exists.1 (show (r64 a0 a1).isSome = true from hx)
  have hres : T64.res (a0, a1) = [.c (.d (.bool r))] := by simp only [T64, hr, Option.getD_some]
  refine ⟨Nat.le_of_ble_eq_true rfl, fun stop S => ?_⟩
  rw [hres] at S
  unfold r64 at hr
  refine S.goB [] 1000 ?_
  simp (maxSteps := 10000000) only [go_sem, T64, Bool.not_true, Bool.not_false, Option.map_some, Int.reduceToNat, Nat.reduceEqDiff, Nat.reduceLT, Nat.reduceAdd, Nat.reduceMul, Nat.reduceSub, Nat.reduceLeDiff, reduceIte, reduceCtorEq, Try.results64]
  repeat refine gA ?_
  refine ⟨fun hc => ?_, fun hc => ?_⟩
  · replace hr := ifP hr hc
    repeat refine gA ?_
    obtain rfl := Option.some.inj hr
    (simp (maxDischargeDepth := 8) [go_sem, -List.drop_one])
  · replace hr := ifN hr hc
    repeat refine gA ?_
    refine S.sees [0, 1, 5] [] [] ?_ (Stop.iter S (fun s1 => ⟨[(0, .c (.d (encF 2 d_II a0))), (1, .c (.d (encF 2 d_II a1))), (5, .c (.d (.int .i64 s1)))], [], []⟩) (b64_1 a0 a1) (fun q => q = r) hr rfl ?_)
    · (simp (maxDischargeDepth := 8) [go_sem, -List.drop_one])
    · intro s1 hr
      unfold b64_1 at hr
      refine S.goB [] 1000 ?_
      simp (maxSteps := 10000000) only [go_sem, T64, Bool.not_true, Bool.not_false, Option.map_some, Int.reduceToNat, Nat.reduceEqDiff, Nat.reduceLT, Nat.reduceAdd, Nat.reduceMul, Nat.reduceSub, Nat.reduceLeDiff, reduceIte, reduceCtorEq, Try.results64]
      repeat refine gA ?_
      refine ⟨fun hc => ?_, fun hc => ?_⟩
      · replace hr := ifP1 hr hc
        obtain ⟨hg1, hr⟩ := of_guard1 hr
        obtain ⟨hg2, hr⟩ := of_guard1 hr
        repeat refine gA ?_
        refine ⟨fun hc => ?_, fun hc => ?_⟩
        · replace hr := ifP1 hr hc
          repeat refine gA ?_
          have hr := of_out0 hr
          obtain rfl := Option.some.inj hr
          (simp (maxDischargeDepth := 8) [go_sem, -List.drop_one])
        · replace hr := ifN1 hr hc
          repeat refine gA ?_
          refine S.sees [0, 1, 5] [] [] ?_ hr
          (simp (maxDischargeDepth := 8) [go_sem, -List.drop_one])
      · replace hr := ifN1 hr hc
        repeat refine gA ?_
        have hr := of_out0 hr
        repeat refine gA ?_
        obtain rfl := Option.some.inj hr
        (simp (maxDischargeDepth := 8) [go_sem, -List.drop_one])
theorem f64 : FnFact Try.prog 64 T64.sp := ⟨⟨Try.f64, Try.func64, by decide, rfl⟩, v64⟩
end Go.Proofs.Ytagnplbfdaifkaa

/- Contracts of functions, written by wip/dec. -/
import Derived.Test.YtagnplbfdaifkaaF00
set_option linter.unusedVariables false
set_option linter.unusedSimpArgs false
set_option maxHeartbeats 4000000
set_option maxRecDepth 20000
namespace Go.Proofs.Ytagnplbfdaifkaa
open Go.Abs
/- martensite/martensitebase.Gausses -/
def b58_1 (a0 : List (Int × Int)) (a1 : List (Int × Int)) : (Int) → Ctl (Int) (Bool) := fun s1 =>
  if (decide (s1 < (a0.length : Int))) = true then
   if 0 ≤ s1 ∧ s1 < (a0.length : Int) then
    if 0 ≤ s1 ∧ s1 < (a1.length : Int) then
     if (!(((a0.getD s1.toNat default).1 == (a1.getD s1.toNat default).1) && ((a0.getD s1.toNat default).2 == (a1.getD s1.toNat default).2))) = true then
      .out (some false)
      else .next (IntKind.i64.wrap (s1 + 1))
     else .out none
    else .out none
   else .out (some true)
def r58 (a0 : List (Int × Int)) (a1 : List (Int × Int)) : Option (Bool) :=
  if ((a0.length : Int) != (a1.length : Int)) = true then
   some false
   else iterC (b58_1 a0 a1) 1000000000 0
def T58 : TSpec ((List (Int × Int)) × (List (Int × Int))) where
  enc x := [.c (encF 2 d_II x.1), .c (encF 2 d_II x.2)]
  dec a := (decF g_II (aCell a 0 0), decF g_II (aCell a 1 0))
  pre x := (r58 x.1 x.2).isSome = true
  res x := [.c (.d (.bool ((r58 x.1 x.2).getD default)))]
  al := false
def tb58 : Fns := lk []
theorem tb58_ok : FnsOk Try.prog tb58 := FnsOk.nil
theorem v58 : Valid Try.prog 58 T58.sp := by
  refine valid_t (fn := Try.f58) (n := 26) ty_ok tb58_ok Try.func58 rfl Try.ntmps58 ?_
  rintro ⟨a0, a1⟩ hx
  obtain ⟨r, hr⟩ := Option.isSome_iff_exists.1 (show (r58 a0 a1).isSome = true from hx)
  have hres : T58.res (a0, a1) = [.c (.d (.bool r))] := by simp only [T58, hr, Option.getD_some]
  refine ⟨Nat.le_of_ble_eq_true rfl, fun stop S => ?_⟩
  rw [hres] at S
  unfold r58 at hr
  refine S.goB [] 1000 ?_
  simp (maxSteps := 10000000) only [go_sem, T58, Bool.not_true, Bool.not_false, Option.map_some, Int.reduceToNat, Nat.reduceEqDiff, Nat.reduceLT, Nat.reduceAdd, Nat.reduceMul, Nat.reduceSub, Nat.reduceLeDiff, reduceIte, reduceCtorEq, Try.results58]
  repeat refine gA ?_
  refine ⟨fun hc => ?_, fun hc => ?_⟩
  · replace hr := ifP hr hc
    repeat refine gA ?_
    obtain rfl := Option.some.inj hr
    (simp (maxDischargeDepth := 8) [go_sem, -List.drop_one])
  · replace hr := ifN hr hc
    repeat refine gA ?_
    refine S.sees [0, 1, 5] [] [] ?_ (Stop.iter S (fun s1 => ⟨[(0, .c (.d (encF 2 d_II a0))), (1, .c (.d (encF 2 d_II a1))), (5, .c (.d (.int .i64 s1)))], [], []⟩) (b58_1 a0 a1) (fun q => q = r) hr rfl ?_)
    · (simp (maxDischargeDepth := 8) [go_sem, -List.drop_one])
    · intro s1 hr
      unfold b58_1 at hr
      refine S.goB [] 1000 ?_
      simp (maxSteps := 10000000) only [go_sem, T58, Bool.not_true, Bool.not_false, Option.map_some, Int.reduceToNat, Nat.reduceEqDiff, Nat.reduceLT, Nat.reduceAdd, Nat.reduceMul, Nat.reduceSub, Nat.reduceLeDiff, reduceIte, reduceCtorEq, Try.results58]
      repeat refine gA ?_
      refine ⟨fun hc => ?_, fun hc => ?_⟩
      · replace hr := ifP1 hr hc
        obtain ⟨hg1, hr⟩ := of_guard1 hr
        obtain ⟨hg2, hr⟩ := of_guard1 hr
        repeat refine gA ?_
        refine ⟨fun hc => ?_, fun hc => ?_⟩
        · replace hr := ifP1 hr hc
          repeat refine gA ?_
          have hr := of_out0 hr
          obtain rfl := Option.some.inj hr
          (simp (maxDischargeDepth := 8) [go_sem, -List.drop_one])
        · replace hr := ifN1 hr hc
          repeat refine gA ?_
          refine S.sees [0, 1, 5] [] [] ?_ hr
          (simp (maxDischargeDepth := 8) [go_sem, -List.drop_one])
      · replace hr := ifN1 hr hc
        repeat refine gA ?_
        have hr := of_out0 hr
        repeat refine gA ?_
        obtain rfl := Option.some.inj hr
        (simp (maxDischargeDepth := 8) [go_sem, -List.drop_one])
theorem f58 : FnFact Try.prog 58 T58.sp := ⟨⟨Try.f58, Try.func58, by decide, rfl⟩, v58⟩

/- martensite/martensitebase.Ints -/
def b30_1 (a0 : List (Int)) (a1 : List (Int)) : (Int) → Ctl (Int) (Bool) := fun s1 =>
  if (decide (s1 < (a0.length : Int))) = true then
   if 0 ≤ s1 ∧ s1 < (a0.length : Int) then
    if 0 ≤ s1 ∧ s1 < (a1.length : Int) then
     if ((a0.getD s1.toNat default) != (a1.getD s1.toNat default)) = true then
      .out (some false)
      else .next (IntKind.i64.wrap (s1 + 1))
     else .out none
    else .out none
   else .out (some true)
def r30 (a0 : List (Int)) (a1 : List (Int)) : Option (Bool) :=
  if ((a0.length : Int) != (a1.length : Int)) = true then
   some false
   else iterC (b30_1 a0 a1) 1000000000 0
def T30 : TSpec ((List (Int)) × (List (Int))) where
  enc x := [.c (encF 1 d_I x.1), .c (encF 1 d_I x.2)]
  dec a := (decF g_I (aCell a 0 0), decF g_I (aCell a 1 0))
  pre x := (r30 x.1 x.2).isSome = true
  res x := [.c (.d (.bool ((r30 x.1 x.2).getD default)))]
  al := false
def tb30 : Fns := lk []
theorem tb30_ok : FnsOk Try.prog tb30 := FnsOk.nil
theorem v30 : Valid Try.prog 30 T30.sp := by
  refine valid_t (fn := Try.f30) (n := 26) ty_ok tb30_ok Try.func30 rfl Try.ntmps30 ?_
  rintro ⟨a0, a1⟩ hx
  obtain ⟨r, hr⟩ := Option.isSome_iff_exists.1 (show (r30 a0 a1).isSome = true from hx)
  have hres : T30.res (a0, a1) = [.c (.d (.bool r))] := by simp only [T30, hr, Option.getD_some]
  refine ⟨Nat.le_of_ble_eq_true rfl, fun stop S => ?_⟩
  rw [hres] at S
  unfold r30 at hr
  refine S.goB [] 1000 ?_
  simp (maxSteps := 10000000) only [go_sem, T30, Bool.not_true, Bool.not_false, Option.map_some, Int.reduceToNat, Nat.reduceEqDiff, Nat.reduceLT, Nat.reduceAdd, Nat.reduceMul, Nat.reduceSub, Nat.reduceLeDiff, reduceIte, reduceCtorEq, Try.results30]
  repeat refine gA ?_
  refine ⟨fun hc => ?_, fun hc => ?_⟩
  · replace hr := ifP hr hc
    repeat refine gA ?_
    obtain rfl := Option.some.inj hr
    (simp (maxDischargeDepth := 8) [go_sem, -List.drop_one])
  · replace hr := ifN hr hc
    repeat refine gA ?_
    refine S.sees [0, 1, 5] [] [] ?_ (Stop.iter S (fun s1 => ⟨[(0, .c (.d (encF 1 d_I a0))), (1, .c (.d (encF 1 d_I a1))), (5, .c (.d (.int .i64 s1)))], [], []⟩) (b30_1 a0 a1) (fun q => q = r) hr rfl ?_)
    · (simp (maxDischargeDepth := 8) [go_sem, -List.drop_one])
    · intro s1 hr
      unfold b30_1 at hr
      refine S.goB [] 1000 ?_
      simp (maxSteps := 10000000) only [go_sem, T30, Bool.not_true, Bool.not_false, Option.map_some, Int.reduceToNat, Nat.reduceEqDiff, Nat.reduceLT, Nat.reduceAdd, Nat.reduceMul, Nat.reduceSub, Nat.reduceLeDiff, reduceIte, reduceCtorEq, Try.results30]
      repeat refine gA ?_
      refine ⟨fun hc => ?_, fun hc => ?_⟩
      · replace hr := ifP1 hr hc
        obtain ⟨hg1, hr⟩ := of_guard1 hr
        obtain ⟨hg2, hr⟩ := of_guard1 hr
        repeat refine gA ?_
        refine ⟨fun hc => ?_, fun hc => ?_⟩
        · replace hr := ifP1 hr hc
          repeat refine gA ?_
          have hr := of_out0 hr
          obtain rfl := Option.some.inj hr
          (simp (maxDischargeDepth := 8) [go_sem, -List.drop_one])
        · replace hr := ifN1 hr hc
          repeat refine gA ?_
          refine S.sees [0, 1, 5] [] [] ?_ hr
          (simp (maxDischargeDepth := 8) [go_sem, -List.drop_one])
      · replace hr := ifN1 hr hc
        repeat refine gA ?_
        have hr := of_out0 hr
        repeat refine gA ?_
        obtain rfl := Option.some.inj hr
        (simp (maxDischargeDepth := 8) [go_sem, -List.drop_one])
theorem f30 : FnFact Try.prog 30 T30.sp := ⟨⟨Try.f30, Try.func30, by decide, rfl⟩, v30⟩
end Go.Proofs.Ytagnplbfdaifkaa

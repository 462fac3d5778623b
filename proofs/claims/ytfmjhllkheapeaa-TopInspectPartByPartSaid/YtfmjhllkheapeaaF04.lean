/- Contracts of functions, written by wip/dec. -/
import Derived.Test.YtfmjhllkheapeaaF00
import Derived.Test.YtfmjhllkheapeaaF01
import Derived.Test.YtfmjhllkheapeaaF02
import Derived.Test.YtfmjhllkheapeaaF03
set_option linter.unusedVariables false
set_option linter.unusedSimpArgs false
set_option maxHeartbeats 4000000
set_option maxRecDepth 20000
namespace Go.Proofs.Ytfmjhllkheapeaa
open Go.Abs
abbrev qA22 := Int × (List (Int)) × Int × (List (Int)) × Int × (List (Int)) × Int × (List (Int))
def qw22 (a0 : Int) (a1 : List (Int)) (a2 : Int) (a3 : List (Int)) (a4 : Int) (a5 : List (Int)) (a6 : Int) (a7 : List (Int)) : List Arg := [.agg [.int .i64 a0, encF 1 d_I a1, .int .i64 a2, encF 1 d_I a3], .agg [.int .i64 a4, encF 1 d_I a5, .int .i64 a6, encF 1 d_I a7]]
def qE22 : qA22 → List Arg := fun ⟨a0, a1, a2, a3, a4, a5, a6, a7⟩ => qw22 a0 a1 a2 a3 a4 a5 a6 a7
def qd22 (a : List Arg) : qA22 := (dInt (aCell a 0 0), decF g_I (aCell a 0 1), dInt (aCell a 0 2), decF g_I (aCell a 0 3), dInt (aCell a 1 0), decF g_I (aCell a 1 1), dInt (aCell a 1 2), decF g_I (aCell a 1 3))
def qp22 {β : Type} (f : Int → (List (Int)) → Int → (List (Int)) → Int → (List (Int)) → Int → (List (Int)) → β) (c0 c1 c2 c3 c4 c5 c6 c7 : D) : β := f (dInt c0) (decF g_I c1) (dInt c2) (decF g_I c3) (dInt c4) (decF g_I c5) (dInt c6) (decF g_I c7)
def qt22 (c0 c1 c2 c3 c4 c5 c6 c7 : D) : List Arg := [.agg [c0, c1, c2, c3], .agg [c4, c5, c6, c7]]
attribute [go_sem] qw22 qp22 qt22 qE22
abbrev qA23 := Int × Int × Int × Int
def qw23 (a0 : Int) (a1 : Int) (a2 : Int) (a3 : Int) : List Arg := [.agg [.int .i64 a0, .int .i64 a1], .agg [.int .i64 a2, .int .i64 a3]]
def qE23 : qA23 → List Arg := fun ⟨a0, a1, a2, a3⟩ => qw23 a0 a1 a2 a3
def qd23 (a : List Arg) : qA23 := (dInt (aCell a 0 0), dInt (aCell a 0 1), dInt (aCell a 1 0), dInt (aCell a 1 1))
def qp23 {β : Type} (f : Int → Int → Int → Int → β) (c0 c1 c2 c3 : D) : β := f (dInt c0) (dInt c1) (dInt c2) (dInt c3)
def qt23 (c0 c1 c2 c3 : D) : List Arg := [.agg [c0, c1], .agg [c2, c3]]
attribute [go_sem] qw23 qp23 qt23 qE23
/- martensite/martensitebase.WideSub -/
def r54 (x0 : Int) (x1 : List (Int)) (x2 : Int) (x3 : List (Int)) : Option (Int × (List (Int))) :=
  (r48 x2 x3).bind fun v1 =>
   (r32 x0 x1 v1.1 v1.2).bind fun v2 =>
    some (v2.1, v2.2)
def T54 : TSpec qA19 := mkT qE19 qd19 (fun ⟨x0, x1, x2, x3⟩ => r54 x0 x1 x2 x3) qu10 true
theorem TP54 (c0 c1 c2 c3 : D) : T54.sp.pre [.agg [c0, c1], .agg [c2, c3]] = (eqvArgs (qt19 c0 c1 c2 c3) (qp19 qw19 c0 c1 c2 c3) ∧ (qp19 r54 c0 c1 c2 c3).isSome = true) := (rfl)
theorem TR54 (c0 c1 c2 c3 : D) : T54.sp.res [.agg [c0, c1], .agg [c2, c3]] = qu10 ((qp19 r54 c0 c1 c2 c3).getD default) := (rfl)
theorem TA54 : T54.sp.alias = true := (rfl)
def tb54 : Fns := lk [(32, T32.sp), (48, T48.sp)]
theorem tb54_ok : FnsOk Try.prog tb54 := .cons f32 (.cons f48 (FnsOk.nil))
theorem tb54_32 : tb54 32 = some T32.sp := rfl
theorem tb54_48 : tb54 48 = some T48.sp := rfl
attribute [go_sem] TP54 TR54 TA54
section
attribute [local go_sem] T54 tb54_32 tb54_48 Try.results54
theorem v54 : Valid Try.prog 54 T54.sp := by
 refine valid_t (fn := Try.f54) (n := 9) ty_ok tb54_ok Try.func54 rfl Try.ntmps54 ?_
 rintro ⟨x0, x1, x2, x3⟩ hx
 obtain ⟨r, hr⟩ := oE (show (r54 x0 x1 x2 x3).isSome = true from hx)
 have hres : T54.res (x0, x1, x2, x3) = qu10 r := by simp only [T54, mkT, hr, oG]
 refine ⟨nL rfl, fun stop S => ?_⟩
 rw [hres] at S
 unfold r54 at hr
 refine S.gx [] ?_
 obtain ⟨v1, hv1, hr⟩ := of_bind0 hr
 obtain ⟨v2, hv2, hr⟩ := of_bind0 hr
 try simp only [hv1, hv2, Option.getD_some, Option.isSome_some, true_and, and_assoc]
 repeat refine gA ?_
 cases hr
 exact lf
theorem f54 : FnFact Try.prog 54 T54.sp := ⟨⟨Try.f54, Try.func54, by decide, rfl⟩, v54⟩
end

/- martensite/martensitebase.WideFloor -/
def b50_2 (x1 : List (Int)) (s1 : (List (Int)) × Int × (List (Int))) (v1 : (List (Int))) : (Int × Int) → Ctl (Int × Int) (Ctl ((List (Int)) × Int × (List (Int))) (Int × (List (Int)))) := fun s2 =>
  if (decide (s2.1 < s2.2)) = true then
   bindC (r46 1 x1) fun v2 =>
    bindC (r30 (IntKind.i64.wrap ((IntKind.i64.wrap ((IntKind.i64.wrap (s2.1 + s2.2)) + 1)).tdiv 2))) fun v3 =>
     bindC (r33 v2.1 v2.2 v3.1 v3.2) fun v4 =>
      bindC (r52 v4.2 v1) fun v5 =>
       if (decide (v5 ≤ 0)) = true then
        .next (IntKind.i64.wrap ((IntKind.i64.wrap ((IntKind.i64.wrap (s2.1 + s2.2)) + 1)).tdiv 2), s2.2)
        else .next (s2.1, IntKind.i64.wrap ((IntKind.i64.wrap ((IntKind.i64.wrap ((IntKind.i64.wrap (s2.1 + s2.2)) + 1)).tdiv 2)) - 1))
   else .out (some (if 0 ≤ s1.2.1 ∧ s1.2.1 < (s1.2.2.length : Int) then
    bindC (r46 1 x1) fun v6 =>
     bindC (r30 s2.1) fun v7 =>
      bindC (r33 v6.1 v6.2 v7.1 v7.2) fun v8 =>
       bindC (r53 v1 v8.2) fun v9 =>
        .next (v9, IntKind.i64.wrap (s1.2.1 - 1), s1.2.2.set s1.2.1.toNat s2.1)
    else .out none))
def b50_1 (x2 : Int) (x0 : List (Int)) (x1 : List (Int)) : ((List (Int)) × Int × (List (Int))) → Ctl ((List (Int)) × Int × (List (Int))) (Int × (List (Int))) := fun s1 =>
  if (decide (s1.2.1 ≥ 0)) = true then
   if 0 ≤ s1.2.1 ∧ s1.2.1 < (x0.length : Int) then
    if (1 + s1.1.length) * 8 ≤ 140737488355328 ∧ 1 + s1.1.length ≤ 9223372036854775807 then
     bindC (r59 ((x0.getD s1.2.1.toNat default) :: s1.1)) fun v1 =>
      (iterC (b50_2 x1 s1 v1) 1000000000 (0, 999999999)).getD (.out none)
     else .out none
    else .out none
   else .out ((r46 x2 s1.2.2).bind fun v13 =>
    if ((decide (x2 < 0)) && (decide ((s1.1.length : Int) > 0))) = true then
     (r30 1).bind fun v14 =>
      (r54 v13.1 v13.2 v14.1 v14.2).bind fun v15 =>
       some (v15.1, v15.2)
     else some (v13.1, v13.2))
def r50 (x2 : Int) (x0 : List (Int)) (x3 : Int) (x1 : List (Int)) : Option (Int × (List (Int))) :=
  if (x2 == 0) = true then
   some (0, [])
   else if 0 ≤ (x0.length : Int) ∧ (x0.length : Int) ≤ (x0.length : Int) ∧ (x0.length : Int) ≤ 9223372036854775807 ∧ 8 * (x0.length : Int) ≤ 281474976710656 then
    iterC (b50_1 x2 x0 x1) 1000000000 (([] : List (Int)), IntKind.i64.wrap ((x0.length : Int) - 1), List.replicate (x0.length : Int).toNat 0)
    else none
def T50 : TSpec qA19 := mkT qE19 qd19 (fun ⟨x2, x0, x3, x1⟩ => r50 x2 x0 x3 x1) qu10 true
theorem TP50 (c0 c1 c2 c3 : D) : T50.sp.pre [.agg [c0, c1], .agg [c2, c3]] = (eqvArgs (qt19 c0 c1 c2 c3) (qp19 qw19 c0 c1 c2 c3) ∧ (qp19 r50 c0 c1 c2 c3).isSome = true) := (rfl)
theorem TR50 (c0 c1 c2 c3 : D) : T50.sp.res [.agg [c0, c1], .agg [c2, c3]] = qu10 ((qp19 r50 c0 c1 c2 c3).getD default) := (rfl)
theorem TA50 : T50.sp.alias = true := (rfl)
def tb50 : Fns := lk [(30, T30.sp), (33, T33.sp), (46, T46.sp), (52, T52.sp), (53, T53.sp), (54, T54.sp), (59, T59.sp)]
theorem tb50_ok : FnsOk Try.prog tb50 := .cons f30 (.cons f33 (.cons f46 (.cons f52 (.cons f53 (.cons f54 (.cons f59 (FnsOk.nil)))))))
theorem tb50_30 : tb50 30 = some T30.sp := rfl
theorem tb50_33 : tb50 33 = some T33.sp := rfl
theorem tb50_46 : tb50 46 = some T46.sp := rfl
theorem tb50_52 : tb50 52 = some T52.sp := rfl
theorem tb50_53 : tb50 53 = some T53.sp := rfl
theorem tb50_54 : tb50 54 = some T54.sp := rfl
theorem tb50_59 : tb50 59 = some T59.sp := rfl
attribute [go_sem] TP50 TR50 TA50
section
attribute [local go_sem] T50 tb50_30 tb50_33 tb50_46 tb50_52 tb50_53 tb50_54 tb50_59 Try.results50
theorem v50 : Valid Try.prog 50 T50.sp := by
 refine valid_t (fn := Try.f50) (n := 88) ty_ok tb50_ok Try.func50 rfl Try.ntmps50 ?_
 rintro ⟨x2, x0, x3, x1⟩ hx
 obtain ⟨r, hr⟩ := oE (show (r50 x2 x0 x3 x1).isSome = true from hx)
 have hres : T50.res (x2, x0, x3, x1) = qu10 r := by simp only [T50, mkT, hr, oG]
 refine ⟨nL rfl, fun stop S => ?_⟩
 rw [hres] at S
 unfold r50 at hr
 refine S.gx [] ?_
 repeat refine gA ?_
 refine ⟨?_, ?_⟩ <;> intro hc
 ·have hr := ifP hr hc
  repeat refine gA ?_
  cases hr
  exact lf
 ·have hr := ifN hr hc
  obtain ⟨hg16, hr⟩ := of_guard0 hr
  repeat refine gA ?_
  refine S.share 20 rfl ?_
  refine S.sees [2, 3, 4, 5, 6, 7] [(2, 2), (3, 3), (4, 4)] [(19, 19)] ?_ (Stop.iter S (fun s1 => ⟨[(2, .c (.ref 2 0)), (3, .c (.ref 3 0)), (4, .c (.ref 4 0)), (5, .c (.own 19)), (6, .c (.d (encF 1 d_I s1.1))), (7, .c (.d (.int .i64 s1.2.1)))], [(2, [.d (.int .i64 x2), .d (encF 1 d_I x0)]), (3, [.d (.int .i64 x3), .d (encF 1 d_I x1)]), (4, [.d (.int .i64 0), .nils])], [(19, .owned (encF 1 d_I s1.2.2))]⟩) (b50_1 x2 x0 x1) (fun q => q = r) hr rfl ?_)
  ·exact lf
  ·intro s1 hr
   unfold b50_1 at hr
   refine S.gx [] ?_
   repeat refine gA ?_
   refine ⟨?_, ?_⟩ <;> intro hc
   ·have hr := ifP1 hr hc
    obtain ⟨hg11, hr⟩ := of_guard1 hr
    obtain ⟨hg12, hr⟩ := of_guard1 hr
    obtain ⟨v1, hv1, hr⟩ := of_bind1 hr
    try simp only [hv1, oG, oI, true_and, and_assoc]
    repeat refine gA ?_
    obtain ⟨q2, hq, hr⟩ := of_iter1 hr
    refine S.sees [2, 3, 4, 5, 6, 7, 8, 9] [(2, 2), (3, 3), (4, 4)] [(19, 19)] ?_ (Stop.iter S (fun s2 => ⟨[(2, .c (.ref 2 0)), (3, .c (.ref 3 0)), (4, .c (.ref 4 0)), (5, .c (.own 19)), (6, .c (.d (encF 1 d_I v1))), (7, .c (.d (.int .i64 s1.2.1))), (8, .c (.d (.int .i64 s2.1))), (9, .c (.d (.int .i64 s2.2)))], [(2, [.d (.int .i64 x2), .d (encF 1 d_I x0)]), (3, [.d (.int .i64 x3), .d (encF 1 d_I x1)]), (4, [.d (.int .i64 0), .nils])], [(19, .owned (encF 1 d_I s1.2.2))]⟩) (b50_2 x1 s1 v1) _ hq hr ?_)
    ·exact lf
    ·intro s2 hr
     unfold b50_2 at hr
     refine S.gx [] ?_
     repeat refine gA ?_
     refine ⟨?_, ?_⟩ <;> intro hc
     ·have hr := ifP1 hr hc
      obtain ⟨v2, hv2, hr⟩ := of_bind1 hr
      obtain ⟨v3, hv3, hr⟩ := of_bind1 hr
      obtain ⟨v4, hv4, hr⟩ := of_bind1 hr
      obtain ⟨v5, hv5, hr⟩ := of_bind1 hr
      try simp only [hv2, hv3, hv4, hv5, Option.getD_some, Option.isSome_some, true_and, and_assoc]
      repeat refine gA ?_
      refine ⟨?_, ?_⟩ <;> intro hc
      ·have hr := ifP1 hr hc
       repeat refine gA ?_
       refine S.sees [2, 3, 4, 5, 6, 7, 8, 9] [(2, 2), (3, 3), (4, 4)] [(19, 19)] ?_ hr
       exact lf
      ·have hr := ifN1 hr hc
       repeat refine gA ?_
       refine S.sees [2, 3, 4, 5, 6, 7, 8, 9] [(2, 2), (3, 3), (4, 4)] [(19, 19)] ?_ hr
       exact lf
     ·have hr := ifN1 hr hc
      repeat refine gA ?_
      replace hr := goodC_out hr
      obtain ⟨hg10, hr⟩ := of_guard1 hr
      obtain ⟨v6, hv6, hr⟩ := of_bind1 hr
      obtain ⟨v7, hv7, hr⟩ := of_bind1 hr
      obtain ⟨v8, hv8, hr⟩ := of_bind1 hr
      obtain ⟨v9, hv9, hr⟩ := of_bind1 hr
      try simp only [hv6, hv7, hv8, hv9, Option.getD_some, Option.isSome_some, true_and, and_assoc]
      repeat refine gA ?_
      refine S.sees [2, 3, 4, 5, 6, 7] [(2, 2), (3, 3), (4, 4)] [(19, 19)] ?_ hr
      exact lf
   ·have hr := ifN1 hr hc
    repeat refine gA ?_
    have hr := of_out0 hr
    obtain ⟨v13, hv13, hr⟩ := of_bind0 hr
    try simp only [hv13, oG, oI, true_and, and_assoc]
    repeat (first | refine gA ?_ | refine gB ?_)
    refine ⟨?_, ?_⟩ <;> intro hc
    ·have hr := ifP hr hc
     obtain ⟨v14, hv14, hr⟩ := of_bind0 hr
     obtain ⟨v15, hv15, hr⟩ := of_bind0 hr
     try simp only [hv14, hv15, Option.getD_some, Option.isSome_some, true_and, and_assoc]
     repeat refine gA ?_
     cases hr
     exact lf
    ·have hr := ifN hr hc
     repeat refine gA ?_
     cases hr
     exact lf
theorem f50 : FnFact Try.prog 50 T50.sp := ⟨⟨Try.f50, Try.func50, by decide, rfl⟩, v50⟩
end

/- martensite/martensitebase.wideGcd -/
def b49_1 : (Int × (List (Int)) × Int × (List (Int))) → Ctl (Int × (List (Int)) × Int × (List (Int))) (Int × (List (Int))) := fun s1 =>
  bindC (r47 s1.2.2.1 s1.2.2.2) fun v3 =>
   if (v3 != 0) = true then
    bindC (r50 s1.1 s1.2.1 s1.2.2.1 s1.2.2.2) fun v4 =>
     bindC (r33 v4.1 v4.2 s1.2.2.1 s1.2.2.2) fun v5 =>
      bindC (r54 s1.1 s1.2.1 v5.1 v5.2) fun v6 =>
       .next (s1.2.2.1, s1.2.2.2, v6.1, v6.2)
    else .out (some (s1.1, s1.2.1))
def r49 (x0 : Int) (x1 : List (Int)) (x2 : Int) (x3 : List (Int)) : Option (Int × (List (Int))) :=
  (r60 x0 x1).bind fun v1 =>
   (r60 x2 x3).bind fun v2 =>
    iterC (b49_1) 1000000000 (v1.1, v1.2, v2.1, v2.2)
def T49 : TSpec qA19 := mkT qE19 qd19 (fun ⟨x0, x1, x2, x3⟩ => r49 x0 x1 x2 x3) qu10 true
theorem TP49 (c0 c1 c2 c3 : D) : T49.sp.pre [.agg [c0, c1], .agg [c2, c3]] = (eqvArgs (qt19 c0 c1 c2 c3) (qp19 qw19 c0 c1 c2 c3) ∧ (qp19 r49 c0 c1 c2 c3).isSome = true) := (rfl)
theorem TR49 (c0 c1 c2 c3 : D) : T49.sp.res [.agg [c0, c1], .agg [c2, c3]] = qu10 ((qp19 r49 c0 c1 c2 c3).getD default) := (rfl)
theorem TA49 : T49.sp.alias = true := (rfl)
def tb49 : Fns := lk [(33, T33.sp), (47, T47.sp), (50, T50.sp), (54, T54.sp), (60, T60.sp)]
theorem tb49_ok : FnsOk Try.prog tb49 := .cons f33 (.cons f47 (.cons f50 (.cons f54 (.cons f60 (FnsOk.nil)))))
theorem tb49_33 : tb49 33 = some T33.sp := rfl
theorem tb49_47 : tb49 47 = some T47.sp := rfl
theorem tb49_50 : tb49 50 = some T50.sp := rfl
theorem tb49_54 : tb49 54 = some T54.sp := rfl
theorem tb49_60 : tb49 60 = some T60.sp := rfl
attribute [go_sem] TP49 TR49 TA49
section
attribute [local go_sem] T49 tb49_33 tb49_47 tb49_50 tb49_54 tb49_60 Try.results49
theorem v49 : Valid Try.prog 49 T49.sp := by
 refine valid_t (fn := Try.f49) (n := 23) ty_ok tb49_ok Try.func49 rfl Try.ntmps49 ?_
 rintro ⟨x0, x1, x2, x3⟩ hx
 obtain ⟨r, hr⟩ := oE (show (r49 x0 x1 x2 x3).isSome = true from hx)
 have hres : T49.res (x0, x1, x2, x3) = qu10 r := by simp only [T49, mkT, hr, oG]
 refine ⟨nL rfl, fun stop S => ?_⟩
 rw [hres] at S
 unfold r49 at hr
 refine S.gx [] ?_
 obtain ⟨v1, hv1, hr⟩ := of_bind0 hr
 obtain ⟨v2, hv2, hr⟩ := of_bind0 hr
 try simp only [hv1, hv2, Option.getD_some, Option.isSome_some, true_and, and_assoc]
 repeat refine gA ?_
 refine S.sees [2, 3, 4] [(2, 2), (3, 3), (4, 4)] [] ?_ (Stop.iter S (fun s1 => ⟨[(2, .c (.ref 2 0)), (3, .c (.ref 3 0)), (4, .c (.ref 4 0))], [(2, [.d (.int .i64 s1.1), .d (encF 1 d_I s1.2.1)]), (3, [.d (.int .i64 s1.2.2.1), .d (encF 1 d_I s1.2.2.2)]), (4, [.d (.int .i64 0), .nils])], []⟩) (b49_1) (fun q => q = r) hr rfl ?_)
 ·exact lf
 ·intro s1 hr
  unfold b49_1 at hr
  refine S.gx [] ?_
  obtain ⟨v3, hv3, hr⟩ := of_bind1 hr
  try simp only [hv3, oG, oI, true_and, and_assoc]
  repeat refine gA ?_
  refine ⟨?_, ?_⟩ <;> intro hc
  ·have hr := ifP1 hr hc
   obtain ⟨v4, hv4, hr⟩ := of_bind1 hr
   obtain ⟨v5, hv5, hr⟩ := of_bind1 hr
   obtain ⟨v6, hv6, hr⟩ := of_bind1 hr
   try simp only [hv4, hv5, hv6, Option.getD_some, Option.isSome_some, true_and, and_assoc]
   repeat refine gA ?_
   refine S.sees [2, 3, 4] [(2, 2), (3, 3), (4, 4)] [] ?_ hr
   exact lf
  ·have hr := ifN1 hr hc
   repeat refine gA ?_
   have hr := of_out0 hr
   repeat refine gA ?_
   cases hr
   exact lf
theorem f49 : FnFact Try.prog 49 T49.sp := ⟨⟨Try.f49, Try.func49, by decide, rfl⟩, v49⟩
end

/- martensite/martensitebase.WideCmp -/
def r34 (x0 : Int) (x1 : List (Int)) (x2 : Int) (x3 : List (Int)) : Option (Int) :=
  (r54 x0 x1 x2 x3).bind fun v1 =>
   some v1.1
def T34 : TSpec qA19 := mkT qE19 qd19 (fun ⟨x0, x1, x2, x3⟩ => r34 x0 x1 x2 x3) qu1 false
theorem TP34 (c0 c1 c2 c3 : D) : T34.sp.pre [.agg [c0, c1], .agg [c2, c3]] = (eqvArgs (qt19 c0 c1 c2 c3) (qp19 qw19 c0 c1 c2 c3) ∧ (qp19 r34 c0 c1 c2 c3).isSome = true) := (rfl)
theorem TR34 (c0 c1 c2 c3 : D) : T34.sp.res [.agg [c0, c1], .agg [c2, c3]] = qu1 ((qp19 r34 c0 c1 c2 c3).getD default) := (rfl)
theorem TA34 : T34.sp.alias = false := (rfl)
def tb34 : Fns := lk [(54, T54.sp)]
theorem tb34_ok : FnsOk Try.prog tb34 := .cons f54 (FnsOk.nil)
theorem tb34_54 : tb34 54 = some T54.sp := rfl
attribute [go_sem] TP34 TR34 TA34
section
attribute [local go_sem] T34 tb34_54 Try.results34
theorem v34 : Valid Try.prog 34 T34.sp := by
 refine valid_t (fn := Try.f34) (n := 9) ty_ok tb34_ok Try.func34 rfl Try.ntmps34 ?_
 rintro ⟨x0, x1, x2, x3⟩ hx
 obtain ⟨r, hr⟩ := oE (show (r34 x0 x1 x2 x3).isSome = true from hx)
 have hres : T34.res (x0, x1, x2, x3) = qu1 r := by simp only [T34, mkT, hr, oG]
 refine ⟨nL rfl, fun stop S => ?_⟩
 rw [hres] at S
 unfold r34 at hr
 refine S.gx [] ?_
 obtain ⟨v1, hv1, hr⟩ := of_bind0 hr
 try simp only [hv1, oG, oI, true_and, and_assoc]
 repeat refine gA ?_
 cases hr
 exact lf
theorem f34 : FnFact Try.prog 34 T34.sp := ⟨⟨Try.f34, Try.func34, by decide, rfl⟩, v34⟩
end

/- martensite/martensitebase.RatioMake -/
def r31 (x2 : Int) (x3 : List (Int)) (x0 : Int) (x1 : List (Int)) : Option (Int × (List (Int)) × Int × (List (Int))) :=
  (r47 x0 x1).bind fun v1 =>
   if (decide (v1 < 0)) = true then
    (r48 x2 x3).bind fun v2 =>
     (r48 x0 x1).bind fun v3 =>
      (r49 v2.1 v2.2 v3.1 v3.2).bind fun v4 =>
       (r30 1).bind fun v5 =>
        (r34 v4.1 v4.2 v5.1 v5.2).bind fun v6 =>
         if (v6 == 0) = true then
          some (v2.1, v2.2, v3.1, v3.2)
          else (r50 v2.1 v2.2 v4.1 v4.2).bind fun v7 =>
           (r50 v3.1 v3.2 v4.1 v4.2).bind fun v8 =>
            some (v7.1, v7.2, v8.1, v8.2)
    else (r49 x2 x3 x0 x1).bind fun v9 =>
     (r30 1).bind fun v10 =>
      (r34 v9.1 v9.2 v10.1 v10.2).bind fun v11 =>
       if (v11 == 0) = true then
        some (x2, x3, x0, x1)
        else (r50 x2 x3 v9.1 v9.2).bind fun v12 =>
         (r50 x0 x1 v9.1 v9.2).bind fun v13 =>
          some (v12.1, v12.2, v13.1, v13.2)
def T31 : TSpec qA19 := mkT qE19 qd19 (fun ⟨x2, x3, x0, x1⟩ => r31 x2 x3 x0 x1) qu11 true
theorem TP31 (c0 c1 c2 c3 : D) : T31.sp.pre [.agg [c0, c1], .agg [c2, c3]] = (eqvArgs (qt19 c0 c1 c2 c3) (qp19 qw19 c0 c1 c2 c3) ∧ (qp19 r31 c0 c1 c2 c3).isSome = true) := (rfl)
theorem TR31 (c0 c1 c2 c3 : D) : T31.sp.res [.agg [c0, c1], .agg [c2, c3]] = qu11 ((qp19 r31 c0 c1 c2 c3).getD default) := (rfl)
theorem TA31 : T31.sp.alias = true := (rfl)
def tb31 : Fns := lk [(30, T30.sp), (34, T34.sp), (47, T47.sp), (48, T48.sp), (49, T49.sp), (50, T50.sp)]
theorem tb31_ok : FnsOk Try.prog tb31 := .cons f30 (.cons f34 (.cons f47 (.cons f48 (.cons f49 (.cons f50 (FnsOk.nil))))))
theorem tb31_30 : tb31 30 = some T30.sp := rfl
theorem tb31_34 : tb31 34 = some T34.sp := rfl
theorem tb31_47 : tb31 47 = some T47.sp := rfl
theorem tb31_48 : tb31 48 = some T48.sp := rfl
theorem tb31_49 : tb31 49 = some T49.sp := rfl
theorem tb31_50 : tb31 50 = some T50.sp := rfl
attribute [go_sem] TP31 TR31 TA31
section
attribute [local go_sem] T31 tb31_30 tb31_34 tb31_47 tb31_48 tb31_49 tb31_50 Try.results31
theorem v31 : Valid Try.prog 31 T31.sp := by
 refine valid_t (fn := Try.f31) (n := 30) ty_ok tb31_ok Try.func31 rfl Try.ntmps31 ?_
 rintro ⟨x2, x3, x0, x1⟩ hx
 obtain ⟨r, hr⟩ := oE (show (r31 x2 x3 x0 x1).isSome = true from hx)
 have hres : T31.res (x2, x3, x0, x1) = qu11 r := by simp only [T31, mkT, hr, oG]
 refine ⟨nL rfl, fun stop S => ?_⟩
 rw [hres] at S
 unfold r31 at hr
 refine S.gx [] ?_
 obtain ⟨v1, hv1, hr⟩ := of_bind0 hr
 try simp only [hv1, oG, oI, true_and, and_assoc]
 repeat refine gA ?_
 refine ⟨?_, ?_⟩ <;> intro hc
 ·have hr := ifP hr hc
  obtain ⟨v2, hv2, hr⟩ := of_bind0 hr
  obtain ⟨v3, hv3, hr⟩ := of_bind0 hr
  obtain ⟨v4, hv4, hr⟩ := of_bind0 hr
  obtain ⟨v5, hv5, hr⟩ := of_bind0 hr
  obtain ⟨v6, hv6, hr⟩ := of_bind0 hr
  try simp only [hv2, hv3, hv4, hv5, hv6, Option.getD_some, Option.isSome_some, true_and, and_assoc]
  repeat refine gA ?_
  refine ⟨?_, ?_⟩ <;> intro hc
  ·have hr := ifP hr hc
   repeat refine gA ?_
   cases hr
   exact lf
  ·have hr := ifN hr hc
   obtain ⟨v7, hv7, hr⟩ := of_bind0 hr
   obtain ⟨v8, hv8, hr⟩ := of_bind0 hr
   try simp only [hv7, hv8, Option.getD_some, Option.isSome_some, true_and, and_assoc]
   repeat refine gA ?_
   cases hr
   exact lf
 ·have hr := ifN hr hc
  obtain ⟨v9, hv9, hr⟩ := of_bind0 hr
  obtain ⟨v10, hv10, hr⟩ := of_bind0 hr
  obtain ⟨v11, hv11, hr⟩ := of_bind0 hr
  try simp only [hv9, hv10, hv11, Option.getD_some, Option.isSome_some, true_and, and_assoc]
  repeat refine gA ?_
  refine ⟨?_, ?_⟩ <;> intro hc
  ·have hr := ifP hr hc
   repeat refine gA ?_
   cases hr
   exact lf
  ·have hr := ifN hr hc
   obtain ⟨v12, hv12, hr⟩ := of_bind0 hr
   obtain ⟨v13, hv13, hr⟩ := of_bind0 hr
   try simp only [hv12, hv13, Option.getD_some, Option.isSome_some, true_and, and_assoc]
   repeat refine gA ?_
   cases hr
   exact lf
theorem f31 : FnFact Try.prog 31 T31.sp := ⟨⟨Try.f31, Try.func31, by decide, rfl⟩, v31⟩
end

/- martensite/martensitebase.RatioOf -/
def r14 (a0 : Int) (a1 : Int) : Option (Int × (List (Int)) × Int × (List (Int))) :=
  (r30 a0).bind fun v1 =>
   (r30 a1).bind fun v2 =>
    (r31 v1.1 v1.2 v2.1 v2.2).bind fun v3 =>
     some (v3.1, v3.2.1, v3.2.2.1, v3.2.2.2)
def T14 : TSpec qA10 := mkT qE10 qd10 (fun ⟨a0, a1⟩ => r14 a0 a1) qu11 true
theorem TP14 (c0 c1 : D) : T14.sp.pre [.c c0, .c c1] = (eqvArgs (qt10 c0 c1) (qp10 qw10 c0 c1) ∧ (qp10 r14 c0 c1).isSome = true) := (rfl)
theorem TR14 (c0 c1 : D) : T14.sp.res [.c c0, .c c1] = qu11 ((qp10 r14 c0 c1).getD default) := (rfl)
theorem TA14 : T14.sp.alias = true := (rfl)
def tb14 : Fns := lk [(30, T30.sp), (31, T31.sp)]
theorem tb14_ok : FnsOk Try.prog tb14 := .cons f30 (.cons f31 (FnsOk.nil))
theorem tb14_30 : tb14 30 = some T30.sp := rfl
theorem tb14_31 : tb14 31 = some T31.sp := rfl
attribute [go_sem] TP14 TR14 TA14
section
attribute [local go_sem] T14 tb14_30 tb14_31 Try.results14
theorem v14 : Valid Try.prog 14 T14.sp := by
 refine valid_t (fn := Try.f14) (n := 10) ty_ok tb14_ok Try.func14 rfl Try.ntmps14 ?_
 rintro ⟨a0, a1⟩ hx
 obtain ⟨r, hr⟩ := oE (show (r14 a0 a1).isSome = true from hx)
 have hres : T14.res (a0, a1) = qu11 r := by simp only [T14, mkT, hr, oG]
 refine ⟨nL rfl, fun stop S => ?_⟩
 rw [hres] at S
 unfold r14 at hr
 refine S.gx [] ?_
 obtain ⟨v1, hv1, hr⟩ := of_bind0 hr
 obtain ⟨v2, hv2, hr⟩ := of_bind0 hr
 obtain ⟨v3, hv3, hr⟩ := of_bind0 hr
 try simp only [hv1, hv2, hv3, Option.getD_some, Option.isSome_some, true_and, and_assoc]
 repeat refine gA ?_
 cases hr
 exact lf
theorem f14 : FnFact Try.prog 14 T14.sp := ⟨⟨Try.f14, Try.func14, by decide, rfl⟩, v14⟩
end

/- martensite/martensitebase.RatioFrom -/
def r15 (x0 : Int) (x1 : Int) : Option (Int × (List (Int)) × Int × (List (Int))) :=
  (r14 x0 x1).bind fun v1 =>
   some (v1.1, v1.2.1, v1.2.2.1, v1.2.2.2)
def T15 : TSpec qA16 := mkT qE16 qd16 (fun ⟨x0, x1⟩ => r15 x0 x1) qu11 true
theorem TP15 (c0 c1 : D) : T15.sp.pre [.agg [c0, c1]] = (eqvArgs (qt16 c0 c1) (qp16 qw16 c0 c1) ∧ (qp16 r15 c0 c1).isSome = true) := (rfl)
theorem TR15 (c0 c1 : D) : T15.sp.res [.agg [c0, c1]] = qu11 ((qp16 r15 c0 c1).getD default) := (rfl)
theorem TA15 : T15.sp.alias = true := (rfl)
def tb15 : Fns := lk [(14, T14.sp)]
theorem tb15_ok : FnsOk Try.prog tb15 := .cons f14 (FnsOk.nil)
theorem tb15_14 : tb15 14 = some T14.sp := rfl
attribute [go_sem] TP15 TR15 TA15
section
attribute [local go_sem] T15 tb15_14 Try.results15
theorem v15 : Valid Try.prog 15 T15.sp := by
 refine valid_t (fn := Try.f15) (n := 8) ty_ok tb15_ok Try.func15 rfl Try.ntmps15 ?_
 rintro ⟨x0, x1⟩ hx
 obtain ⟨r, hr⟩ := oE (show (r15 x0 x1).isSome = true from hx)
 have hres : T15.res (x0, x1) = qu11 r := by simp only [T15, mkT, hr, oG]
 refine ⟨nL rfl, fun stop S => ?_⟩
 rw [hres] at S
 unfold r15 at hr
 refine S.gx [] ?_
 obtain ⟨v1, hv1, hr⟩ := of_bind0 hr
 try simp only [hv1, oG, oI, true_and, and_assoc]
 repeat refine gA ?_
 cases hr
 exact lf
theorem f15 : FnFact Try.prog 15 T15.sp := ⟨⟨Try.f15, Try.func15, by decide, rfl⟩, v15⟩
end

/- martensite/martensitebase.RatioMul -/
def r13 (x0 : Int) (x1 : List (Int)) (x2 : Int) (x3 : List (Int)) (x4 : Int) (x5 : List (Int)) (x6 : Int) (x7 : List (Int)) : Option (Int × (List (Int)) × Int × (List (Int))) :=
  (r33 x0 x1 x4 x5).bind fun v1 =>
   (r33 x2 x3 x6 x7).bind fun v2 =>
    (r31 v1.1 v1.2 v2.1 v2.2).bind fun v3 =>
     some (v3.1, v3.2.1, v3.2.2.1, v3.2.2.2)
def T13 : TSpec qA22 := mkT qE22 qd22 (fun ⟨x0, x1, x2, x3, x4, x5, x6, x7⟩ => r13 x0 x1 x2 x3 x4 x5 x6 x7) qu11 true
theorem TP13 (c0 c1 c2 c3 c4 c5 c6 c7 : D) : T13.sp.pre [.agg [c0, c1, c2, c3], .agg [c4, c5, c6, c7]] = (eqvArgs (qt22 c0 c1 c2 c3 c4 c5 c6 c7) (qp22 qw22 c0 c1 c2 c3 c4 c5 c6 c7) ∧ (qp22 r13 c0 c1 c2 c3 c4 c5 c6 c7).isSome = true) := (rfl)
theorem TR13 (c0 c1 c2 c3 c4 c5 c6 c7 : D) : T13.sp.res [.agg [c0, c1, c2, c3], .agg [c4, c5, c6, c7]] = qu11 ((qp22 r13 c0 c1 c2 c3 c4 c5 c6 c7).getD default) := (rfl)
theorem TA13 : T13.sp.alias = true := (rfl)
def tb13 : Fns := lk [(31, T31.sp), (33, T33.sp)]
theorem tb13_ok : FnsOk Try.prog tb13 := .cons f31 (.cons f33 (FnsOk.nil))
theorem tb13_31 : tb13 31 = some T31.sp := rfl
theorem tb13_33 : tb13 33 = some T33.sp := rfl
attribute [go_sem] TP13 TR13 TA13
section
attribute [local go_sem] T13 tb13_31 tb13_33 Try.results13
theorem v13 : Valid Try.prog 13 T13.sp := by
 refine valid_t (fn := Try.f13) (n := 16) ty_ok tb13_ok Try.func13 rfl Try.ntmps13 ?_
 rintro ⟨x0, x1, x2, x3, x4, x5, x6, x7⟩ hx
 obtain ⟨r, hr⟩ := oE (show (r13 x0 x1 x2 x3 x4 x5 x6 x7).isSome = true from hx)
 have hres : T13.res (x0, x1, x2, x3, x4, x5, x6, x7) = qu11 r := by simp only [T13, mkT, hr, oG]
 refine ⟨nL rfl, fun stop S => ?_⟩
 rw [hres] at S
 unfold r13 at hr
 refine S.gx [] ?_
 obtain ⟨v1, hv1, hr⟩ := of_bind0 hr
 obtain ⟨v2, hv2, hr⟩ := of_bind0 hr
 obtain ⟨v3, hv3, hr⟩ := of_bind0 hr
 try simp only [hv1, hv2, hv3, Option.getD_some, Option.isSome_some, true_and, and_assoc]
 repeat refine gA ?_
 cases hr
 exact lf
theorem f13 : FnFact Try.prog 13 T13.sp := ⟨⟨Try.f13, Try.func13, by decide, rfl⟩, v13⟩
end

/- martensite/martensitebase.RatioAdd -/
def r12 (x4 : Int) (x5 : List (Int)) (x0 : Int) (x1 : List (Int)) (x6 : Int) (x7 : List (Int)) (x2 : Int) (x3 : List (Int)) : Option (Int × (List (Int)) × Int × (List (Int))) :=
  (r33 x4 x5 x2 x3).bind fun v1 =>
   (r33 x6 x7 x0 x1).bind fun v2 =>
    (r32 v1.1 v1.2 v2.1 v2.2).bind fun v3 =>
     (r33 x0 x1 x2 x3).bind fun v4 =>
      (r31 v3.1 v3.2 v4.1 v4.2).bind fun v5 =>
       some (v5.1, v5.2.1, v5.2.2.1, v5.2.2.2)
def T12 : TSpec qA22 := mkT qE22 qd22 (fun ⟨x4, x5, x0, x1, x6, x7, x2, x3⟩ => r12 x4 x5 x0 x1 x6 x7 x2 x3) qu11 true
theorem TP12 (c0 c1 c2 c3 c4 c5 c6 c7 : D) : T12.sp.pre [.agg [c0, c1, c2, c3], .agg [c4, c5, c6, c7]] = (eqvArgs (qt22 c0 c1 c2 c3 c4 c5 c6 c7) (qp22 qw22 c0 c1 c2 c3 c4 c5 c6 c7) ∧ (qp22 r12 c0 c1 c2 c3 c4 c5 c6 c7).isSome = true) := (rfl)
theorem TR12 (c0 c1 c2 c3 c4 c5 c6 c7 : D) : T12.sp.res [.agg [c0, c1, c2, c3], .agg [c4, c5, c6, c7]] = qu11 ((qp22 r12 c0 c1 c2 c3 c4 c5 c6 c7).getD default) := (rfl)
theorem TA12 : T12.sp.alias = true := (rfl)
def tb12 : Fns := lk [(31, T31.sp), (32, T32.sp), (33, T33.sp)]
theorem tb12_ok : FnsOk Try.prog tb12 := .cons f31 (.cons f32 (.cons f33 (FnsOk.nil)))
theorem tb12_31 : tb12 31 = some T31.sp := rfl
theorem tb12_32 : tb12 32 = some T32.sp := rfl
theorem tb12_33 : tb12 33 = some T33.sp := rfl
attribute [go_sem] TP12 TR12 TA12
section
attribute [local go_sem] T12 tb12_31 tb12_32 tb12_33 Try.results12
theorem v12 : Valid Try.prog 12 T12.sp := by
 refine valid_t (fn := Try.f12) (n := 22) ty_ok tb12_ok Try.func12 rfl Try.ntmps12 ?_
 rintro ⟨x4, x5, x0, x1, x6, x7, x2, x3⟩ hx
 obtain ⟨r, hr⟩ := oE (show (r12 x4 x5 x0 x1 x6 x7 x2 x3).isSome = true from hx)
 have hres : T12.res (x4, x5, x0, x1, x6, x7, x2, x3) = qu11 r := by simp only [T12, mkT, hr, oG]
 refine ⟨nL rfl, fun stop S => ?_⟩
 rw [hres] at S
 unfold r12 at hr
 refine S.gx [] ?_
 obtain ⟨v1, hv1, hr⟩ := of_bind0 hr
 obtain ⟨v2, hv2, hr⟩ := of_bind0 hr
 obtain ⟨v3, hv3, hr⟩ := of_bind0 hr
 obtain ⟨v4, hv4, hr⟩ := of_bind0 hr
 obtain ⟨v5, hv5, hr⟩ := of_bind0 hr
 try simp only [hv1, hv2, hv3, hv4, hv5, Option.getD_some, Option.isSome_some, true_and, and_assoc]
 repeat refine gA ?_
 cases hr
 exact lf
theorem f12 : FnFact Try.prog 12 T12.sp := ⟨⟨Try.f12, Try.func12, by decide, rfl⟩, v12⟩
end

/- martensite/martensitebase.RatioCmp -/
def r16 (x0 : Int) (x1 : List (Int)) (x2 : Int) (x3 : List (Int)) (x4 : Int) (x5 : List (Int)) (x6 : Int) (x7 : List (Int)) : Option (Int) :=
  (r33 x0 x1 x6 x7).bind fun v1 =>
   (r33 x4 x5 x2 x3).bind fun v2 =>
    (r34 v1.1 v1.2 v2.1 v2.2).bind fun v3 =>
     some v3
def T16 : TSpec qA22 := mkT qE22 qd22 (fun ⟨x0, x1, x2, x3, x4, x5, x6, x7⟩ => r16 x0 x1 x2 x3 x4 x5 x6 x7) qu1 false
theorem TP16 (c0 c1 c2 c3 c4 c5 c6 c7 : D) : T16.sp.pre [.agg [c0, c1, c2, c3], .agg [c4, c5, c6, c7]] = (eqvArgs (qt22 c0 c1 c2 c3 c4 c5 c6 c7) (qp22 qw22 c0 c1 c2 c3 c4 c5 c6 c7) ∧ (qp22 r16 c0 c1 c2 c3 c4 c5 c6 c7).isSome = true) := (rfl)
theorem TR16 (c0 c1 c2 c3 c4 c5 c6 c7 : D) : T16.sp.res [.agg [c0, c1, c2, c3], .agg [c4, c5, c6, c7]] = qu1 ((qp22 r16 c0 c1 c2 c3 c4 c5 c6 c7).getD default) := (rfl)
theorem TA16 : T16.sp.alias = false := (rfl)
def tb16 : Fns := lk [(33, T33.sp), (34, T34.sp)]
theorem tb16_ok : FnsOk Try.prog tb16 := .cons f33 (.cons f34 (FnsOk.nil))
theorem tb16_33 : tb16 33 = some T33.sp := rfl
theorem tb16_34 : tb16 34 = some T34.sp := rfl
attribute [go_sem] TP16 TR16 TA16
section
attribute [local go_sem] T16 tb16_33 tb16_34 Try.results16
theorem v16 : Valid Try.prog 16 T16.sp := by
 refine valid_t (fn := Try.f16) (n := 16) ty_ok tb16_ok Try.func16 rfl Try.ntmps16 ?_
 rintro ⟨x0, x1, x2, x3, x4, x5, x6, x7⟩ hx
 obtain ⟨r, hr⟩ := oE (show (r16 x0 x1 x2 x3 x4 x5 x6 x7).isSome = true from hx)
 have hres : T16.res (x0, x1, x2, x3, x4, x5, x6, x7) = qu1 r := by simp only [T16, mkT, hr, oG]
 refine ⟨nL rfl, fun stop S => ?_⟩
 rw [hres] at S
 unfold r16 at hr
 refine S.gx [] ?_
 obtain ⟨v1, hv1, hr⟩ := of_bind0 hr
 obtain ⟨v2, hv2, hr⟩ := of_bind0 hr
 obtain ⟨v3, hv3, hr⟩ := of_bind0 hr
 try simp only [hv1, hv2, hv3, Option.getD_some, Option.isSome_some, true_and, and_assoc]
 repeat refine gA ?_
 cases hr
 exact lf
theorem f16 : FnFact Try.prog 16 T16.sp := ⟨⟨Try.f16, Try.func16, by decide, rfl⟩, v16⟩
end

/- martensite/martensitebase.Cmp -/
def r17 (x0 : Int) (x1 : Int) (x2 : Int) (x3 : Int) : Option (Int) :=
  if (decide ((IntKind.i64.wrap (x0 * x3)) < (IntKind.i64.wrap (x2 * x1)))) = true then
   some (-1)
   else if (decide ((IntKind.i64.wrap (x0 * x3)) > (IntKind.i64.wrap (x2 * x1)))) = true then
    some 1
    else some 0
def T17 : TSpec qA23 := mkT qE23 qd23 (fun ⟨x0, x1, x2, x3⟩ => r17 x0 x1 x2 x3) qu1 false
theorem TP17 (c0 c1 c2 c3 : D) : T17.sp.pre [.agg [c0, c1], .agg [c2, c3]] = (eqvArgs (qt23 c0 c1 c2 c3) (qp23 qw23 c0 c1 c2 c3) ∧ (qp23 r17 c0 c1 c2 c3).isSome = true) := (rfl)
theorem TR17 (c0 c1 c2 c3 : D) : T17.sp.res [.agg [c0, c1], .agg [c2, c3]] = qu1 ((qp23 r17 c0 c1 c2 c3).getD default) := (rfl)
theorem TA17 : T17.sp.alias = false := (rfl)
def tb17 : Fns := lk []
theorem tb17_ok : FnsOk Try.prog tb17 := FnsOk.nil
attribute [go_sem] TP17 TR17 TA17
section
attribute [local go_sem] T17 Try.results17
theorem v17 : Valid Try.prog 17 T17.sp := by
 refine valid_t (fn := Try.f17) (n := 23) ty_ok tb17_ok Try.func17 rfl Try.ntmps17 ?_
 rintro ⟨x0, x1, x2, x3⟩ hx
 obtain ⟨r, hr⟩ := oE (show (r17 x0 x1 x2 x3).isSome = true from hx)
 have hres : T17.res (x0, x1, x2, x3) = qu1 r := by simp only [T17, mkT, hr, oG]
 refine ⟨nL rfl, fun stop S => ?_⟩
 rw [hres] at S
 unfold r17 at hr
 refine S.gx [] ?_
 repeat refine gA ?_
 refine ⟨?_, ?_⟩ <;> intro hc
 ·have hr := ifP hr hc
  repeat refine gA ?_
  cases hr
  exact lf
 ·have hr := ifN hr hc
  repeat refine gA ?_
  refine ⟨?_, ?_⟩ <;> intro hc
  ·have hr := ifP hr hc
   repeat refine gA ?_
   cases hr
   exact lf
  ·have hr := ifN hr hc
   repeat refine gA ?_
   cases hr
   exact lf
theorem f17 : FnFact Try.prog 17 T17.sp := ⟨⟨Try.f17, Try.func17, by decide, rfl⟩, v17⟩
end

/- martensite/martensitebase.Whole -/
def r18 (a0 : Int) : Option (Int × Int) :=
  some (a0, 1)
def T18 : TSpec qA4 := mkT qE4 qd4 r18 qu5 false
theorem TP18 (c0 : D) : T18.sp.pre [.c c0] = (eqvArgs (qt4 c0) (qp4 qw4 c0) ∧ (qp4 r18 c0).isSome = true) := (rfl)
theorem TR18 (c0 : D) : T18.sp.res [.c c0] = qu5 ((qp4 r18 c0).getD default) := (rfl)
theorem TA18 : T18.sp.alias = false := (rfl)
def tb18 : Fns := lk []
theorem tb18_ok : FnsOk Try.prog tb18 := FnsOk.nil
attribute [go_sem] TP18 TR18 TA18
section
attribute [local go_sem] T18 Try.results18
theorem v18 : Valid Try.prog 18 T18.sp := by
 refine valid_t (fn := Try.f18) (n := 5) ty_ok tb18_ok Try.func18 rfl Try.ntmps18 ?_
 rintro a0 hx
 obtain ⟨r, hr⟩ := oE (show (r18 a0).isSome = true from hx)
 have hres : T18.res a0 = qu5 r := by simp only [T18, mkT, hr, oG]
 refine ⟨nL rfl, fun stop S => ?_⟩
 rw [hres] at S
 unfold r18 at hr
 refine S.gx [] ?_
 repeat refine gA ?_
 cases hr
 exact lf
theorem f18 : FnFact Try.prog 18 T18.sp := ⟨⟨Try.f18, Try.func18, by decide, rfl⟩, v18⟩
end

/- martensite/inspect.riskErr -/
def r37 (a0 : Int) : Option (Int) :=
  (r42 a0 0 999).bind fun v1 =>
   (r35 v1 2).bind fun v2 =>
    some v2
def T37 : TSpec qA4 := mkT qE4 qd4 r37 qu1 false
theorem TP37 (c0 : D) : T37.sp.pre [.c c0] = (eqvArgs (qt4 c0) (qp4 qw4 c0) ∧ (qp4 r37 c0).isSome = true) := (rfl)
theorem TR37 (c0 : D) : T37.sp.res [.c c0] = qu1 ((qp4 r37 c0).getD default) := (rfl)
theorem TA37 : T37.sp.alias = false := (rfl)
def tb37 : Fns := lk [(35, T35.sp), (42, T42.sp)]
theorem tb37_ok : FnsOk Try.prog tb37 := .cons f35 (.cons f42 (FnsOk.nil))
theorem tb37_35 : tb37 35 = some T35.sp := rfl
theorem tb37_42 : tb37 42 = some T42.sp := rfl
attribute [go_sem] TP37 TR37 TA37
section
attribute [local go_sem] T37 tb37_35 tb37_42 Try.results37
theorem v37 : Valid Try.prog 37 T37.sp := by
 refine valid_t (fn := Try.f37) (n := 6) ty_ok tb37_ok Try.func37 rfl Try.ntmps37 ?_
 rintro a0 hx
 obtain ⟨r, hr⟩ := oE (show (r37 a0).isSome = true from hx)
 have hres : T37.res a0 = qu1 r := by simp only [T37, mkT, hr, oG]
 refine ⟨nL rfl, fun stop S => ?_⟩
 rw [hres] at S
 unfold r37 at hr
 refine S.gx [] ?_
 obtain ⟨v1, hv1, hr⟩ := of_bind0 hr
 obtain ⟨v2, hv2, hr⟩ := of_bind0 hr
 try simp only [hv1, hv2, Option.getD_some, Option.isSome_some, true_and, and_assoc]
 repeat refine gA ?_
 cases hr
 exact lf
theorem f37 : FnFact Try.prog 37 T37.sp := ⟨⟨Try.f37, Try.func37, by decide, rfl⟩, v37⟩
end

/- martensite/inspect.SampleFor -/
def b19_1 (a0 : Int) (a1 : Int) (a2 : Int) : (Int) → Ctl (Int) (Int × Int) := fun s1 =>
  if (decide (s1 ≤ a0)) = true then
   bindC (r28 a0 s1 0 a1) fun v6 =>
    if (decide ((IntKind.i64.wrap (1000 * v6.1)) ≤ (IntKind.i64.wrap (a2 * v6.2)))) = true then
     .out (some (s1, 0))
     else .next (IntKind.i64.wrap (s1 + 1))
   else .out (some (0, 12))
def r19 (a0 : Int) (a1 : Int) (a2 : Int) : Option (Int × Int) :=
  (r36 a0).bind fun v1 =>
   (r35 v1 2).bind fun v2 =>
    (r26 a0 a1).bind fun v3 =>
     (r37 a2).bind fun v4 =>
      (r24 [v2, v3, v4]).bind fun v5 =>
       if (v5 != 0) = true then
        some (0, v5)
        else iterC (b19_1 a0 a1 a2) 1000000000 1
def T19 : TSpec qA3 := mkT qE3 qd3 (fun ⟨a0, a1, a2⟩ => r19 a0 a1 a2) qu3 false
theorem TP19 (c0 c1 c2 : D) : T19.sp.pre [.c c0, .c c1, .c c2] = (eqvArgs (qt3 c0 c1 c2) (qp3 qw3 c0 c1 c2) ∧ (qp3 r19 c0 c1 c2).isSome = true) := (rfl)
theorem TR19 (c0 c1 c2 : D) : T19.sp.res [.c c0, .c c1, .c c2] = qu3 ((qp3 r19 c0 c1 c2).getD default) := (rfl)
theorem TA19 : T19.sp.alias = false := (rfl)
def tb19 : Fns := lk [(24, T24.sp), (26, T26.sp), (28, T28.sp), (35, T35.sp), (36, T36.sp), (37, T37.sp)]
theorem tb19_ok : FnsOk Try.prog tb19 := .cons f24 (.cons f26 (.cons f28 (.cons f35 (.cons f36 (.cons f37 (FnsOk.nil))))))
theorem tb19_24 : tb19 24 = some T24.sp := rfl
theorem tb19_26 : tb19 26 = some T26.sp := rfl
theorem tb19_28 : tb19 28 = some T28.sp := rfl
theorem tb19_35 : tb19 35 = some T35.sp := rfl
theorem tb19_36 : tb19 36 = some T36.sp := rfl
theorem tb19_37 : tb19 37 = some T37.sp := rfl
attribute [go_sem] TP19 TR19 TA19
section
attribute [local go_sem] T19 tb19_24 tb19_26 tb19_28 tb19_35 tb19_36 tb19_37 Try.results19
theorem v19 : Valid Try.prog 19 T19.sp := by
 refine valid_t (fn := Try.f19) (n := 45) ty_ok tb19_ok Try.func19 rfl Try.ntmps19 ?_
 rintro ⟨a0, a1, a2⟩ hx
 obtain ⟨r, hr⟩ := oE (show (r19 a0 a1 a2).isSome = true from hx)
 have hres : T19.res (a0, a1, a2) = qu3 r := by simp only [T19, mkT, hr, oG]
 refine ⟨nL rfl, fun stop S => ?_⟩
 rw [hres] at S
 unfold r19 at hr
 refine S.gx [] ?_
 obtain ⟨v1, hv1, hr⟩ := of_bind0 hr
 obtain ⟨v2, hv2, hr⟩ := of_bind0 hr
 obtain ⟨v3, hv3, hr⟩ := of_bind0 hr
 obtain ⟨v4, hv4, hr⟩ := of_bind0 hr
 obtain ⟨v5, hv5, hr⟩ := of_bind0 hr
 try simp only [hv1, hv2, hv3, hv4, hv5, Option.getD_some, Option.isSome_some, true_and, and_assoc]
 repeat refine gA ?_
 refine ⟨?_, ?_⟩ <;> intro hc
 ·have hr := ifP hr hc
  repeat refine gA ?_
  cases hr
  exact lf
 ·have hr := ifN hr hc
  repeat refine gA ?_
  refine S.sees [0, 1, 2, 9] [] [] ?_ (Stop.iter S (fun s1 => ⟨[(0, .c (.d (.int .i64 a0))), (1, .c (.d (.int .i64 a1))), (2, .c (.d (.int .i64 a2))), (9, .c (.d (.int .i64 s1)))], [], []⟩) (b19_1 a0 a1 a2) (fun q => q = r) hr rfl ?_)
  ·exact lf
  ·intro s1 hr
   unfold b19_1 at hr
   refine S.gx [] ?_
   repeat refine gA ?_
   refine ⟨?_, ?_⟩ <;> intro hc
   ·have hr := ifP1 hr hc
    obtain ⟨v6, hv6, hr⟩ := of_bind1 hr
    try simp only [hv6, oG, oI, true_and, and_assoc]
    repeat refine gA ?_
    refine ⟨?_, ?_⟩ <;> intro hc
    ·have hr := ifP1 hr hc
     repeat refine gA ?_
     have hr := of_out0 hr
     cases hr
     exact lf
    ·have hr := ifN1 hr hc
     repeat refine gA ?_
     refine S.sees [0, 1, 2, 9] [] [] ?_ hr
     exact lf
   ·have hr := ifN1 hr hc
    repeat refine gA ?_
    have hr := of_out0 hr
    repeat refine gA ?_
    cases hr
    exact lf
theorem f19 : FnFact Try.prog 19 T19.sp := ⟨⟨Try.f19, Try.func19, by decide, rfl⟩, v19⟩
end
end Go.Proofs.Ytfmjhllkheapeaa

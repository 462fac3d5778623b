/- Contracts of functions, written by wip/dec. -/
import Derived.Test.YtfmjhllkheapeaaF00
import Derived.Test.YtfmjhllkheapeaaF02
set_option linter.unusedVariables false
set_option linter.unusedSimpArgs false
set_option maxHeartbeats 4000000
set_option maxRecDepth 20000
namespace Go.Proofs.Ytfmjhllkheapeaa
open Go.Abs
abbrev qA17 := Int × (List (Int))
def qw17 (a0 : Int) (a1 : List (Int)) : List Arg := [.c (.int .i64 a0), .c (encF 1 d_I a1)]
def qE17 : qA17 → List Arg := fun ⟨a0, a1⟩ => qw17 a0 a1
def qd17 (a : List Arg) : qA17 := (dInt (aCell a 0 0), decF g_I (aCell a 1 0))
def qp17 {β : Type} (f : Int → (List (Int)) → β) (c0 c1 : D) : β := f (dInt c0) (decF g_I c1)
def qt17 (c0 c1 : D) : List Arg := [.c c0, .c c1]
attribute [go_sem] qw17 qp17 qt17 qE17
abbrev qA18 := Int × (List (Int))
def qw18 (a0 : Int) (a1 : List (Int)) : List Arg := [.agg [.int .i64 a0, encF 1 d_I a1]]
def qE18 : qA18 → List Arg := fun ⟨a0, a1⟩ => qw18 a0 a1
def qd18 (a : List Arg) : qA18 := (dInt (aCell a 0 0), decF g_I (aCell a 0 1))
def qp18 {β : Type} (f : Int → (List (Int)) → β) (c0 c1 : D) : β := f (dInt c0) (decF g_I c1)
def qt18 (c0 c1 : D) : List Arg := [.agg [c0, c1]]
attribute [go_sem] qw18 qp18 qt18 qE18
abbrev qA20 := (List (Int)) × (List (Int))
def qw20 (a0 : List (Int)) (a1 : List (Int)) : List Arg := [.c (encF 1 d_I a0), .c (encF 1 d_I a1)]
def qE20 : qA20 → List Arg := fun ⟨a0, a1⟩ => qw20 a0 a1
def qd20 (a : List Arg) : qA20 := (decF g_I (aCell a 0 0), decF g_I (aCell a 1 0))
def qp20 {β : Type} (f : (List (Int)) → (List (Int)) → β) (c0 c1 : D) : β := f (decF g_I c0) (decF g_I c1)
def qt20 (c0 c1 : D) : List Arg := [.c c0, .c c1]
attribute [go_sem] qw20 qp20 qt20 qE20
abbrev qA21 := (List (Int)) × Int
def qw21 (a0 : List (Int)) (a1 : Int) : List Arg := [.c (encF 1 d_I a0), .c (.int .i64 a1)]
def qE21 : qA21 → List Arg := fun ⟨a0, a1⟩ => qw21 a0 a1
def qd21 (a : List Arg) : qA21 := (decF g_I (aCell a 0 0), dInt (aCell a 1 0))
def qp21 {β : Type} (f : (List (Int)) → Int → β) (c0 c1 : D) : β := f (decF g_I c0) (dInt c1)
def qt21 (c0 c1 : D) : List Arg := [.c c0, .c c1]
attribute [go_sem] qw21 qp21 qt21 qE21
def qu9 (v : (List (Int))) : List RV := [.c (.d (encF 1 d_I v))]
attribute [go_sem] qu9
def qu12 (v : (List (Int))) : List RV := [.c (.own (encF 1 d_I v))]
attribute [go_sem] qu12
/- martensite/martensiteref08.RiskErr -/
def r7 (a0 : Int) : Option (Int) :=
  (r23 a0 0 999).bind fun v1 =>
   if (!v1) = true then
    some 2
    else some 0
def T7 : TSpec qA4 := mkT qE4 qd4 r7 qu1 false
theorem TP7 (c0 : D) : T7.sp.pre [.c c0] = (eqvArgs (qt4 c0) (qp4 qw4 c0) ∧ (qp4 r7 c0).isSome = true) := (rfl)
theorem TR7 (c0 : D) : T7.sp.res [.c c0] = qu1 ((qp4 r7 c0).getD default) := (rfl)
theorem TA7 : T7.sp.alias = false := (rfl)
def tb7 : Fns := lk [(23, T23.sp)]
theorem tb7_ok : FnsOk Try.prog tb7 := .cons f23 (FnsOk.nil)
theorem tb7_23 : tb7 23 = some T23.sp := rfl
attribute [go_sem] TP7 TR7 TA7
section
attribute [local go_sem] T7 tb7_23 Try.results7
theorem v7 : Valid Try.prog 7 T7.sp := by
 refine valid_t (fn := Try.f7) (n := 6) ty_ok tb7_ok Try.func7 rfl Try.ntmps7 ?_
 rintro a0 hx
 obtain ⟨r, hr⟩ := oE (show (r7 a0).isSome = true from hx)
 have hres : T7.res a0 = qu1 r := by simp only [T7, mkT, hr, oG]
 refine ⟨nL rfl, fun stop S => ?_⟩
 rw [hres] at S
 unfold r7 at hr
 refine S.gx [] ?_
 obtain ⟨v1, hv1, hr⟩ := of_bind0 hr
 try simp only [hv1, oG, oI, true_and, and_assoc]
 repeat refine gA ?_
 refine ⟨?_, ?_⟩ <;> intro hc
 ·have hr := ifP hr hc
  repeat refine gA ?_
  cases hr
  exact lf
 ·have hr := ifN hr hc
  repeat refine gA ?_
  cases hr
  exact lf
theorem f7 : FnFact Try.prog 7 T7.sp := ⟨⟨Try.f7, Try.func7, by decide, rfl⟩, v7⟩
end

/- martensite/martensitebase.IsLowest -/
def r9 (x1 : Int) (x0 : Int) : Option (Bool) :=
  if (decide (x0 > 0)) = true → (r29 x1 x0).isSome = true then
   some ((decide (x0 > 0)) && (((r29 x1 x0).getD default) == 1))
   else none
def T9 : TSpec qA16 := mkT qE16 qd16 (fun ⟨x1, x0⟩ => r9 x1 x0) qu2 false
theorem TP9 (c0 c1 : D) : T9.sp.pre [.agg [c0, c1]] = (eqvArgs (qt16 c0 c1) (qp16 qw16 c0 c1) ∧ (qp16 r9 c0 c1).isSome = true) := (rfl)
theorem TR9 (c0 c1 : D) : T9.sp.res [.agg [c0, c1]] = qu2 ((qp16 r9 c0 c1).getD default) := (rfl)
theorem TA9 : T9.sp.alias = false := (rfl)
def tb9 : Fns := lk [(29, T29.sp)]
theorem tb9_ok : FnsOk Try.prog tb9 := .cons f29 (FnsOk.nil)
theorem tb9_29 : tb9 29 = some T29.sp := rfl
attribute [go_sem] TP9 TR9 TA9
section
attribute [local go_sem] T9 tb9_29 Try.results9
theorem v9 : Valid Try.prog 9 T9.sp := by
 refine valid_t (fn := Try.f9) (n := 14) ty_ok tb9_ok Try.func9 rfl Try.ntmps9 ?_
 rintro ⟨x1, x0⟩ hx
 obtain ⟨r, hr⟩ := oE (show (r9 x1 x0).isSome = true from hx)
 have hres : T9.res (x1, x0) = qu2 r := by simp only [T9, mkT, hr, oG]
 refine ⟨nL rfl, fun stop S => ?_⟩
 rw [hres] at S
 unfold r9 at hr
 refine S.gx [] ?_
 obtain ⟨hg1, hr⟩ := of_guard0 hr
 repeat (first | refine gG hg1 ?_ | refine gA ?_ | refine gB ?_)
 cases hr
 exact lf
theorem f9 : FnFact Try.prog 9 T9.sp := ⟨⟨Try.f9, Try.func9, by decide, rfl⟩, v9⟩
end

/- martensite/martensitebase.IsSmall -/
def r10 (x1 : Int) (x0 : Int) : Option (Bool) :=
  (r23 x1 (-1000000000) 1000000000).bind fun v1 =>
   if v1 = true → (r23 x0 1 1000000000).isSome = true then
    some (v1 && ((r23 x0 1 1000000000).getD default))
    else none
def T10 : TSpec qA16 := mkT qE16 qd16 (fun ⟨x1, x0⟩ => r10 x1 x0) qu2 false
theorem TP10 (c0 c1 : D) : T10.sp.pre [.agg [c0, c1]] = (eqvArgs (qt16 c0 c1) (qp16 qw16 c0 c1) ∧ (qp16 r10 c0 c1).isSome = true) := (rfl)
theorem TR10 (c0 c1 : D) : T10.sp.res [.agg [c0, c1]] = qu2 ((qp16 r10 c0 c1).getD default) := (rfl)
theorem TA10 : T10.sp.alias = false := (rfl)
def tb10 : Fns := lk [(23, T23.sp)]
theorem tb10_ok : FnsOk Try.prog tb10 := .cons f23 (FnsOk.nil)
theorem tb10_23 : tb10 23 = some T23.sp := rfl
attribute [go_sem] TP10 TR10 TA10
section
attribute [local go_sem] T10 tb10_23 Try.results10
theorem v10 : Valid Try.prog 10 T10.sp := by
 refine valid_t (fn := Try.f10) (n := 11) ty_ok tb10_ok Try.func10 rfl Try.ntmps10 ?_
 rintro ⟨x1, x0⟩ hx
 obtain ⟨r, hr⟩ := oE (show (r10 x1 x0).isSome = true from hx)
 have hres : T10.res (x1, x0) = qu2 r := by simp only [T10, mkT, hr, oG]
 refine ⟨nL rfl, fun stop S => ?_⟩
 rw [hres] at S
 unfold r10 at hr
 refine S.gx [] ?_
 obtain ⟨v1, hv1, hr⟩ := of_bind0 hr
 obtain ⟨hg2, hr⟩ := of_guard0 hr
 try simp only [hv1, oG, oI, true_and, and_assoc]
 repeat (first | refine gG hg2 ?_ | refine gA ?_ | refine gB ?_)
 cases hr
 exact lf
theorem f10 : FnFact Try.prog 10 T10.sp := ⟨⟨Try.f10, Try.func10, by decide, rfl⟩, v10⟩
end

/- martensite/martensitebase.trimmed -/
def b59_1 (a0 : List (Int)) : (Int) → Ctl (Int) ((List (Int))) := fun s1 =>
  if (decide (s1 > 0)) = true → 0 ≤ IntKind.i64.wrap (s1 - 1) ∧ IntKind.i64.wrap (s1 - 1) < (a0.length : Int) then
   if ((decide (s1 > 0)) && ((a0.getD (IntKind.i64.wrap (s1 - 1)).toNat default) == 0)) = true then
    .next (IntKind.i64.wrap (s1 - 1))
    else .out (if 0 ≤ 0 ∧ 0 ≤ s1 ∧ s1 ≤ (a0.length : Int) then
     some (a0.take s1.toNat)
     else none)
   else .out none
def r59 (a0 : List (Int)) : Option ((List (Int))) :=
  iterC (b59_1 a0) 1000000000 (a0.length : Int)
def T59 : TSpec qA2 := mkT qE2 qd2 r59 qu9 true
theorem TP59 (c0 : D) : T59.sp.pre [.c c0] = (eqvArgs (qt2 c0) (qp2 qw2 c0) ∧ (qp2 r59 c0).isSome = true) := (rfl)
theorem TR59 (c0 : D) : T59.sp.res [.c c0] = qu9 ((qp2 r59 c0).getD default) := (rfl)
theorem TA59 : T59.sp.alias = true := (rfl)
def tb59 : Fns := lk []
theorem tb59_ok : FnsOk Try.prog tb59 := FnsOk.nil
attribute [go_sem] TP59 TR59 TA59
section
attribute [local go_sem] T59 Try.results59
theorem v59 : Valid Try.prog 59 T59.sp := by
 refine valid_t (fn := Try.f59) (n := 21) ty_ok tb59_ok Try.func59 rfl Try.ntmps59 ?_
 rintro a0 hx
 obtain ⟨r, hr⟩ := oE (show (r59 a0).isSome = true from hx)
 have hres : T59.res a0 = qu9 r := by simp only [T59, mkT, hr, oG]
 refine ⟨nL rfl, fun stop S => ?_⟩
 rw [hres] at S
 unfold r59 at hr
 refine S.gx [] ?_
 repeat refine gA ?_
 refine S.sees [0, 3] [] [] ?_ (Stop.iter S (fun s1 => ⟨[(0, .c (.d (encF 1 d_I a0))), (3, .c (.d (.int .i64 s1)))], [], []⟩) (b59_1 a0) (fun q => q = r) hr rfl ?_)
 ·exact lf
 ·intro s1 hr
  unfold b59_1 at hr
  refine S.gx [] ?_
  obtain ⟨hg3, hr⟩ := of_guard1 hr
  repeat (first | refine gG hg3 ?_ | refine gA ?_ | refine gB ?_)
  refine ⟨?_, ?_⟩ <;> intro hc
  ·have hr := ifP1 hr hc
   repeat refine gA ?_
   refine S.sees [0, 3] [] [] ?_ hr
   exact lf
  ·have hr := ifN1 hr hc
   repeat refine gA ?_
   have hr := of_out0 hr
   obtain ⟨hg1, hr⟩ := of_guard0 hr
   have hi2 : Nonempty (PLift (s1.toNat ≤ a0.length)) := ⟨⟨by omega⟩⟩
   try simp only [decF_subE0]
   try simp only [decF_subE, dec_IIII, dec_LIIIIE, dec_I, dec_B, dec_LIE, dec_II, dec_LIIE, Option.getD_some, Option.isSome_some, true_and, and_assoc]
   repeat refine gA ?_
   cases hr
   exact lf
theorem f59 : FnFact Try.prog 59 T59.sp := ⟨⟨Try.f59, Try.func59, by decide, rfl⟩, v59⟩
end

/- martensite/martensitebase.wideOf -/
def r46 (a0 : Int) (a1 : List (Int)) : Option (Int × (List (Int))) :=
  (r59 a1).bind fun v1 =>
   if ((v1.length : Int) == 0) = true then
    some (0, v1)
    else some (a0, v1)
def T46 : TSpec qA17 := mkT qE17 qd17 (fun ⟨a0, a1⟩ => r46 a0 a1) qu10 true
theorem TP46 (c0 c1 : D) : T46.sp.pre [.c c0, .c c1] = (eqvArgs (qt17 c0 c1) (qp17 qw17 c0 c1) ∧ (qp17 r46 c0 c1).isSome = true) := (rfl)
theorem TR46 (c0 c1 : D) : T46.sp.res [.c c0, .c c1] = qu10 ((qp17 r46 c0 c1).getD default) := (rfl)
theorem TA46 : T46.sp.alias = true := (rfl)
def tb46 : Fns := lk [(59, T59.sp)]
theorem tb46_ok : FnsOk Try.prog tb46 := .cons f59 (FnsOk.nil)
theorem tb46_59 : tb46 59 = some T59.sp := rfl
attribute [go_sem] TP46 TR46 TA46
section
attribute [local go_sem] T46 tb46_59 Try.results46
theorem v46 : Valid Try.prog 46 T46.sp := by
 refine valid_t (fn := Try.f46) (n := 13) ty_ok tb46_ok Try.func46 rfl Try.ntmps46 ?_
 rintro ⟨a0, a1⟩ hx
 obtain ⟨r, hr⟩ := oE (show (r46 a0 a1).isSome = true from hx)
 have hres : T46.res (a0, a1) = qu10 r := by simp only [T46, mkT, hr, oG]
 refine ⟨nL rfl, fun stop S => ?_⟩
 rw [hres] at S
 unfold r46 at hr
 refine S.gx [] ?_
 obtain ⟨v1, hv1, hr⟩ := of_bind0 hr
 try simp only [hv1, oG, oI, true_and, and_assoc]
 repeat refine gA ?_
 refine ⟨?_, ?_⟩ <;> intro hc
 ·have hr := ifP hr hc
  repeat refine gA ?_
  cases hr
  exact lf
 ·have hr := ifN hr hc
  repeat refine gA ?_
  cases hr
  exact lf
theorem f46 : FnFact Try.prog 46 T46.sp := ⟨⟨Try.f46, Try.func46, by decide, rfl⟩, v46⟩
end

/- martensite/martensitebase.WideOf -/
def b30_1 : (Int × (List (Int))) → Ctl (Int × (List (Int))) (Int × (List (Int))) := fun s1 =>
  if (s1.1 != 0) = true then
   bindC (r45 (s1.1.tmod 1000000000)) fun v1 =>
    if (s1.2.length + 1) * 8 ≤ 140737488355328 ∧ s1.2.length + 1 ≤ 9223372036854775807 then
     .next (IntKind.i64.wrap (s1.1.tdiv 1000000000), s1.2 ++ [v1])
     else .out none
   else .out ((r46 (-1) s1.2).bind fun v3 =>
    some (v3.1, v3.2))
def b30_2 : (Int × (List (Int))) → Ctl (Int × (List (Int))) (Int × (List (Int))) := fun s2 =>
  if (s2.1 != 0) = true then
   bindC (r45 (s2.1.tmod 1000000000)) fun v4 =>
    if (s2.2.length + 1) * 8 ≤ 140737488355328 ∧ s2.2.length + 1 ≤ 9223372036854775807 then
     .next (IntKind.i64.wrap (s2.1.tdiv 1000000000), s2.2 ++ [v4])
     else .out none
   else .out ((r46 1 s2.2).bind fun v6 =>
    some (v6.1, v6.2))
def r30 (a0 : Int) : Option (Int × (List (Int))) :=
  if (decide (a0 < 0)) = true then
   iterC (b30_1) 1000000000 (a0, [])
   else iterC (b30_2) 1000000000 (a0, [])
def T30 : TSpec qA4 := mkT qE4 qd4 r30 qu10 true
theorem TP30 (c0 : D) : T30.sp.pre [.c c0] = (eqvArgs (qt4 c0) (qp4 qw4 c0) ∧ (qp4 r30 c0).isSome = true) := (rfl)
theorem TR30 (c0 : D) : T30.sp.res [.c c0] = qu10 ((qp4 r30 c0).getD default) := (rfl)
theorem TA30 : T30.sp.alias = true := (rfl)
def tb30 : Fns := lk [(45, T45.sp), (46, T46.sp)]
theorem tb30_ok : FnsOk Try.prog tb30 := .cons f45 (.cons f46 (FnsOk.nil))
theorem tb30_45 : tb30 45 = some T45.sp := rfl
theorem tb30_46 : tb30 46 = some T46.sp := rfl
attribute [go_sem] TP30 TR30 TA30
section
attribute [local go_sem] T30 tb30_45 tb30_46 Try.results30
theorem v30 : Valid Try.prog 30 T30.sp := by
 refine valid_t (fn := Try.f30) (n := 20) ty_ok tb30_ok Try.func30 rfl Try.ntmps30 ?_
 rintro a0 hx
 obtain ⟨r, hr⟩ := oE (show (r30 a0).isSome = true from hx)
 have hres : T30.res a0 = qu10 r := by simp only [T30, mkT, hr, oG]
 refine ⟨nL rfl, fun stop S => ?_⟩
 rw [hres] at S
 unfold r30 at hr
 refine S.gx [] ?_
 repeat refine gA ?_
 refine ⟨?_, ?_⟩ <;> intro hc
 ·have hr := ifP hr hc
  repeat refine gA ?_
  refine S.own0 4 1000400 1 rfl rfl ?_
  refine S.sees [0, 2, 3, 4] [(2, 2)] [(1000400, 1000400)] ?_ (Stop.iter S (fun s1 => ⟨[(0, .c (.d (.int .i64 s1.1))), (2, .c (.ref 2 0)), (3, .c (.d (.int .i64 (-1)))), (4, .c (.own 1000400))], [(2, [.d (.int .i64 0), .nils])], [(1000400, .owned (encF 1 d_I s1.2))]⟩) (b30_1) (fun q => q = r) hr rfl ?_)
  ·exact lf
  ·intro s1 hr
   unfold b30_1 at hr
   refine S.gx [] ?_
   repeat refine gA ?_
   refine ⟨?_, ?_⟩ <;> intro hc
   ·have hr := ifP1 hr hc
    obtain ⟨v1, hv1, hr⟩ := of_bind1 hr
    obtain ⟨hg2, hr⟩ := of_guard1 hr
    try simp only [hv1, oG, oI, true_and, and_assoc]
    repeat refine gA ?_
    refine S.sees [0, 2, 3, 4] [(2, 2)] [(14, 1000400)] ?_ hr
    exact lf
   ·have hr := ifN1 hr hc
    repeat refine gA ?_
    have hr := of_out0 hr
    obtain ⟨v3, hv3, hr⟩ := of_bind0 hr
    try simp only [hv3, oG, oI, true_and, and_assoc]
    repeat refine gA ?_
    cases hr
    exact lf
 ·have hr := ifN hr hc
  repeat refine gA ?_
  refine S.own0 4 1000400 1 rfl rfl ?_
  refine S.sees [0, 2, 3, 4] [(2, 2)] [(1000400, 1000400)] ?_ (Stop.iter S (fun s2 => ⟨[(0, .c (.d (.int .i64 s2.1))), (2, .c (.ref 2 0)), (3, .c (.d (.int .i64 1))), (4, .c (.own 1000400))], [(2, [.d (.int .i64 0), .nils])], [(1000400, .owned (encF 1 d_I s2.2))]⟩) (b30_2) (fun q => q = r) hr rfl ?_)
  ·exact lf
  ·intro s2 hr
   unfold b30_2 at hr
   refine S.gx [] ?_
   repeat refine gA ?_
   refine ⟨?_, ?_⟩ <;> intro hc
   ·have hr := ifP1 hr hc
    obtain ⟨v4, hv4, hr⟩ := of_bind1 hr
    obtain ⟨hg5, hr⟩ := of_guard1 hr
    try simp only [hv4, oG, oI, true_and, and_assoc]
    repeat refine gA ?_
    refine S.sees [0, 2, 3, 4] [(2, 2)] [(14, 1000400)] ?_ hr
    exact lf
   ·have hr := ifN1 hr hc
    repeat refine gA ?_
    have hr := of_out0 hr
    obtain ⟨v6, hv6, hr⟩ := of_bind0 hr
    try simp only [hv6, oG, oI, true_and, and_assoc]
    repeat refine gA ?_
    cases hr
    exact lf
theorem f30 : FnFact Try.prog 30 T30.sp := ⟨⟨Try.f30, Try.func30, by decide, rfl⟩, v30⟩
end

/- martensite/martensitebase.RatioInt -/
def r11 (a0 : Int) : Option (Int × (List (Int)) × Int × (List (Int))) :=
  (r30 a0).bind fun v1 =>
   (r30 1).bind fun v2 =>
    some (v1.1, v1.2, v2.1, v2.2)
def T11 : TSpec qA4 := mkT qE4 qd4 r11 qu11 true
theorem TP11 (c0 : D) : T11.sp.pre [.c c0] = (eqvArgs (qt4 c0) (qp4 qw4 c0) ∧ (qp4 r11 c0).isSome = true) := (rfl)
theorem TR11 (c0 : D) : T11.sp.res [.c c0] = qu11 ((qp4 r11 c0).getD default) := (rfl)
theorem TA11 : T11.sp.alias = true := (rfl)
def tb11 : Fns := lk [(30, T30.sp)]
theorem tb11_ok : FnsOk Try.prog tb11 := .cons f30 (FnsOk.nil)
theorem tb11_30 : tb11 30 = some T30.sp := rfl
attribute [go_sem] TP11 TR11 TA11
section
attribute [local go_sem] T11 tb11_30 Try.results11
theorem v11 : Valid Try.prog 11 T11.sp := by
 refine valid_t (fn := Try.f11) (n := 7) ty_ok tb11_ok Try.func11 rfl Try.ntmps11 ?_
 rintro a0 hx
 obtain ⟨r, hr⟩ := oE (show (r11 a0).isSome = true from hx)
 have hres : T11.res a0 = qu11 r := by simp only [T11, mkT, hr, oG]
 refine ⟨nL rfl, fun stop S => ?_⟩
 rw [hres] at S
 unfold r11 at hr
 refine S.gx [] ?_
 obtain ⟨v1, hv1, hr⟩ := of_bind0 hr
 obtain ⟨v2, hv2, hr⟩ := of_bind0 hr
 try simp only [hv1, hv2, Option.getD_some, Option.isSome_some, true_and, and_assoc]
 repeat refine gA ?_
 cases hr
 exact lf
theorem f11 : FnFact Try.prog 11 T11.sp := ⟨⟨Try.f11, Try.func11, by decide, rfl⟩, v11⟩
end

/- martensite/martensitebase.WideSign -/
def r47 (x0 : Int) (x1 : List (Int)) : Option (Int) :=
  some x0
def T47 : TSpec qA18 := mkT qE18 qd18 (fun ⟨x0, x1⟩ => r47 x0 x1) qu1 false
theorem TP47 (c0 c1 : D) : T47.sp.pre [.agg [c0, c1]] = (eqvArgs (qt18 c0 c1) (qp18 qw18 c0 c1) ∧ (qp18 r47 c0 c1).isSome = true) := (rfl)
theorem TR47 (c0 c1 : D) : T47.sp.res [.agg [c0, c1]] = qu1 ((qp18 r47 c0 c1).getD default) := (rfl)
theorem TA47 : T47.sp.alias = false := (rfl)
def tb47 : Fns := lk []
theorem tb47_ok : FnsOk Try.prog tb47 := FnsOk.nil
attribute [go_sem] TP47 TR47 TA47
section
attribute [local go_sem] T47 Try.results47
theorem v47 : Valid Try.prog 47 T47.sp := by
 refine valid_t (fn := Try.f47) (n := 5) ty_ok tb47_ok Try.func47 rfl Try.ntmps47 ?_
 rintro ⟨x0, x1⟩ hx
 obtain ⟨r, hr⟩ := oE (show (r47 x0 x1).isSome = true from hx)
 have hres : T47.res (x0, x1) = qu1 r := by simp only [T47, mkT, hr, oG]
 refine ⟨nL rfl, fun stop S => ?_⟩
 rw [hres] at S
 unfold r47 at hr
 refine S.gx [] ?_
 repeat refine gA ?_
 cases hr
 exact lf
theorem f47 : FnFact Try.prog 47 T47.sp := ⟨⟨Try.f47, Try.func47, by decide, rfl⟩, v47⟩
end

/- martensite/martensitebase.WideNeg -/
def r48 (x0 : Int) (x1 : List (Int)) : Option (Int × (List (Int))) :=
  some (IntKind.i64.wrap (0 - x0), x1)
def T48 : TSpec qA18 := mkT qE18 qd18 (fun ⟨x0, x1⟩ => r48 x0 x1) qu10 true
theorem TP48 (c0 c1 : D) : T48.sp.pre [.agg [c0, c1]] = (eqvArgs (qt18 c0 c1) (qp18 qw18 c0 c1) ∧ (qp18 r48 c0 c1).isSome = true) := (rfl)
theorem TR48 (c0 c1 : D) : T48.sp.res [.agg [c0, c1]] = qu10 ((qp18 r48 c0 c1).getD default) := (rfl)
theorem TA48 : T48.sp.alias = true := (rfl)
def tb48 : Fns := lk []
theorem tb48_ok : FnsOk Try.prog tb48 := FnsOk.nil
attribute [go_sem] TP48 TR48 TA48
section
attribute [local go_sem] T48 Try.results48
theorem v48 : Valid Try.prog 48 T48.sp := by
 refine valid_t (fn := Try.f48) (n := 9) ty_ok tb48_ok Try.func48 rfl Try.ntmps48 ?_
 rintro ⟨x0, x1⟩ hx
 obtain ⟨r, hr⟩ := oE (show (r48 x0 x1).isSome = true from hx)
 have hres : T48.res (x0, x1) = qu10 r := by simp only [T48, mkT, hr, oG]
 refine ⟨nL rfl, fun stop S => ?_⟩
 rw [hres] at S
 unfold r48 at hr
 refine S.gx [] ?_
 repeat refine gA ?_
 cases hr
 exact lf
theorem f48 : FnFact Try.prog 48 T48.sp := ⟨⟨Try.f48, Try.func48, by decide, rfl⟩, v48⟩
end

/- martensite/martensitebase.wideSize -/
def r60 (x0 : Int) (x1 : List (Int)) : Option (Int × (List (Int))) :=
  if (decide (x0 < 0)) = true then
   (r48 x0 x1).bind fun v1 =>
    some (v1.1, v1.2)
   else some (x0, x1)
def T60 : TSpec qA18 := mkT qE18 qd18 (fun ⟨x0, x1⟩ => r60 x0 x1) qu10 true
theorem TP60 (c0 c1 : D) : T60.sp.pre [.agg [c0, c1]] = (eqvArgs (qt18 c0 c1) (qp18 qw18 c0 c1) ∧ (qp18 r60 c0 c1).isSome = true) := (rfl)
theorem TR60 (c0 c1 : D) : T60.sp.res [.agg [c0, c1]] = qu10 ((qp18 r60 c0 c1).getD default) := (rfl)
theorem TA60 : T60.sp.alias = true := (rfl)
def tb60 : Fns := lk [(48, T48.sp)]
theorem tb60_ok : FnsOk Try.prog tb60 := .cons f48 (FnsOk.nil)
theorem tb60_48 : tb60 48 = some T48.sp := rfl
attribute [go_sem] TP60 TR60 TA60
section
attribute [local go_sem] T60 tb60_48 Try.results60
theorem v60 : Valid Try.prog 60 T60.sp := by
 refine valid_t (fn := Try.f60) (n := 9) ty_ok tb60_ok Try.func60 rfl Try.ntmps60 ?_
 rintro ⟨x0, x1⟩ hx
 obtain ⟨r, hr⟩ := oE (show (r60 x0 x1).isSome = true from hx)
 have hres : T60.res (x0, x1) = qu10 r := by simp only [T60, mkT, hr, oG]
 refine ⟨nL rfl, fun stop S => ?_⟩
 rw [hres] at S
 unfold r60 at hr
 refine S.gx [] ?_
 repeat refine gA ?_
 refine ⟨?_, ?_⟩ <;> intro hc
 ·have hr := ifP hr hc
  obtain ⟨v1, hv1, hr⟩ := of_bind0 hr
  try simp only [hv1, oG, oI, true_and, and_assoc]
  repeat refine gA ?_
  cases hr
  exact lf
 ·have hr := ifN hr hc
  repeat refine gA ?_
  cases hr
  exact lf
theorem f60 : FnFact Try.prog 60 T60.sp := ⟨⟨Try.f60, Try.func60, by decide, rfl⟩, v60⟩
end

/- martensite/martensitebase.WideMul -/
def b33_2 (x1 : List (Int)) (x0 : List (Int)) (s1 : Int × (List (Int))) : (Int × Int × (List (Int))) → Ctl (Int × Int × (List (Int))) (Ctl (Int × (List (Int))) (Int × (List (Int)))) := fun s2 =>
  if (decide (s2.2.1 < (x0.length : Int))) = true then
   if 0 ≤ IntKind.i64.wrap (s1.1 + s2.2.1) ∧ IntKind.i64.wrap (s1.1 + s2.2.1) < (s2.2.2.length : Int) then
    if 0 ≤ s1.1 ∧ s1.1 < (x1.length : Int) then
     if 0 ≤ s2.2.1 ∧ s2.2.1 < (x0.length : Int) then
      if 0 ≤ IntKind.i64.wrap (s1.1 + s2.2.1) ∧ IntKind.i64.wrap (s1.1 + s2.2.1) < (s2.2.2.length : Int) then
       .next (IntKind.i64.wrap ((IntKind.i64.wrap ((IntKind.i64.wrap ((s2.2.2.getD (IntKind.i64.wrap (s1.1 + s2.2.1)).toNat default) + (IntKind.i64.wrap ((x1.getD s1.1.toNat default) * (x0.getD s2.2.1.toNat default))))) + s2.1)).tdiv 1000000000), IntKind.i64.wrap (s2.2.1 + 1), s2.2.2.set (IntKind.i64.wrap (s1.1 + s2.2.1)).toNat ((IntKind.i64.wrap ((IntKind.i64.wrap ((s2.2.2.getD (IntKind.i64.wrap (s1.1 + s2.2.1)).toNat default) + (IntKind.i64.wrap ((x1.getD s1.1.toNat default) * (x0.getD s2.2.1.toNat default))))) + s2.1)).tmod 1000000000))
       else .out none
      else .out none
     else .out none
    else .out none
   else .out (some (if 0 ≤ IntKind.i64.wrap (s1.1 + (x0.length : Int)) ∧ IntKind.i64.wrap (s1.1 + (x0.length : Int)) < (s2.2.2.length : Int) then
    if 0 ≤ IntKind.i64.wrap (s1.1 + (x0.length : Int)) ∧ IntKind.i64.wrap (s1.1 + (x0.length : Int)) < (s2.2.2.length : Int) then
     .next (IntKind.i64.wrap (s1.1 + 1), s2.2.2.set (IntKind.i64.wrap (s1.1 + (x0.length : Int))).toNat (IntKind.i64.wrap ((s2.2.2.getD (IntKind.i64.wrap (s1.1 + (x0.length : Int))).toNat default) + s2.1)))
     else .out none
    else .out none))
def b33_1 (x2 : Int) (x1 : List (Int)) (x3 : Int) (x0 : List (Int)) : (Int × (List (Int))) → Ctl (Int × (List (Int))) (Int × (List (Int))) := fun s1 =>
  if (decide (s1.1 < (x1.length : Int))) = true then
   (iterC (b33_2 x1 x0 s1) 1000000000 (0, 0, s1.2)).getD (.out none)
   else .out ((r46 (IntKind.i64.wrap (x2 * x3)) s1.2).bind fun v7 =>
    some (v7.1, v7.2))
def r33 (x2 : Int) (x1 : List (Int)) (x3 : Int) (x0 : List (Int)) : Option (Int × (List (Int))) :=
  if 0 ≤ IntKind.i64.wrap ((IntKind.i64.wrap ((x1.length : Int) + (x0.length : Int))) + 1) ∧ IntKind.i64.wrap ((IntKind.i64.wrap ((x1.length : Int) + (x0.length : Int))) + 1) ≤ IntKind.i64.wrap ((IntKind.i64.wrap ((x1.length : Int) + (x0.length : Int))) + 1) ∧ IntKind.i64.wrap ((IntKind.i64.wrap ((x1.length : Int) + (x0.length : Int))) + 1) ≤ 9223372036854775807 ∧ 8 * (IntKind.i64.wrap ((IntKind.i64.wrap ((x1.length : Int) + (x0.length : Int))) + 1)) ≤ 281474976710656 then
   iterC (b33_1 x2 x1 x3 x0) 1000000000 (0, List.replicate (IntKind.i64.wrap ((IntKind.i64.wrap ((x1.length : Int) + (x0.length : Int))) + 1)).toNat 0)
   else none
def T33 : TSpec qA19 := mkT qE19 qd19 (fun ⟨x2, x1, x3, x0⟩ => r33 x2 x1 x3 x0) qu10 true
theorem TP33 (c0 c1 c2 c3 : D) : T33.sp.pre [.agg [c0, c1], .agg [c2, c3]] = (eqvArgs (qt19 c0 c1 c2 c3) (qp19 qw19 c0 c1 c2 c3) ∧ (qp19 r33 c0 c1 c2 c3).isSome = true) := (rfl)
theorem TR33 (c0 c1 c2 c3 : D) : T33.sp.res [.agg [c0, c1], .agg [c2, c3]] = qu10 ((qp19 r33 c0 c1 c2 c3).getD default) := (rfl)
theorem TA33 : T33.sp.alias = true := (rfl)
def tb33 : Fns := lk [(46, T46.sp)]
theorem tb33_ok : FnsOk Try.prog tb33 := .cons f46 (FnsOk.nil)
theorem tb33_46 : tb33 46 = some T46.sp := rfl
attribute [go_sem] TP33 TR33 TA33
section
attribute [local go_sem] T33 tb33_46 Try.results33
theorem v33 : Valid Try.prog 33 T33.sp := by
 refine valid_t (fn := Try.f33) (n := 86) ty_ok tb33_ok Try.func33 rfl Try.ntmps33 ?_
 rintro ⟨x2, x1, x3, x0⟩ hx
 obtain ⟨r, hr⟩ := oE (show (r33 x2 x1 x3 x0).isSome = true from hx)
 have hres : T33.res (x2, x1, x3, x0) = qu10 r := by simp only [T33, mkT, hr, oG]
 refine ⟨nL rfl, fun stop S => ?_⟩
 rw [hres] at S
 unfold r33 at hr
 refine S.gx [8] ?_
 obtain ⟨hg8, hr⟩ := of_guard0 hr
 repeat refine gA ?_
 refine S.sees [2, 3, 4, 5, 6] [(2, 2), (3, 3), (4, 4)] [(18, 18)] ?_ (Stop.iter S (fun s1 => ⟨[(2, .c (.ref 2 0)), (3, .c (.ref 3 0)), (4, .c (.ref 4 0)), (5, .c (.own 18)), (6, .c (.d (.int .i64 s1.1)))], [(2, [.d (.int .i64 x2), .d (encF 1 d_I x1)]), (3, [.d (.int .i64 x3), .d (encF 1 d_I x0)]), (4, [.d (.int .i64 0), .nils])], [(18, .owned (encF 1 d_I s1.2))]⟩) (b33_1 x2 x1 x3 x0) (fun q => q = r) hr rfl ?_)
 ·exact lf
 ·intro s1 hr
  unfold b33_1 at hr
  refine S.gx [8] ?_
  repeat refine gA ?_
  refine ⟨?_, ?_⟩ <;> intro hc
  ·have hr := ifP1 hr hc
   repeat refine gA ?_
   obtain ⟨q2, hq, hr⟩ := of_iter1 hr
   refine S.sees [2, 3, 4, 5, 6, 7, 8] [(2, 2), (3, 3), (4, 4)] [(18, 18)] ?_ (Stop.iter S (fun s2 => ⟨[(2, .c (.ref 2 0)), (3, .c (.ref 3 0)), (4, .c (.ref 4 0)), (5, .c (.own 18)), (6, .c (.d (.int .i64 s1.1))), (7, .c (.d (.int .i64 s2.1))), (8, .c (.d (.int .i64 s2.2.1)))], [(2, [.d (.int .i64 x2), .d (encF 1 d_I x1)]), (3, [.d (.int .i64 x3), .d (encF 1 d_I x0)]), (4, [.d (.int .i64 0), .nils])], [(18, .owned (encF 1 d_I s2.2.2))]⟩) (b33_2 x1 x0 s1) _ hq hr ?_)
   ·exact lf
   ·intro s2 hr
    unfold b33_2 at hr
    refine S.gx [8] ?_
    repeat refine gA ?_
    refine ⟨?_, ?_⟩ <;> intro hc
    ·have hr := ifP1 hr hc
     obtain ⟨hg1, hr⟩ := of_guard1 hr
     obtain ⟨hg2, hr⟩ := of_guard1 hr
     obtain ⟨hg3, hr⟩ := of_guard1 hr
     obtain ⟨hg4, hr⟩ := of_guard1 hr
     repeat refine gA ?_
     refine S.prune [2, 3, 4, 5, 6, 7, 8] ?_
     refine S.gx [] ?_
     repeat refine gA ?_
     refine S.sees [2, 3, 4, 5, 6, 7, 8] [(2, 2), (3, 3), (4, 4)] [(18, 18)] ?_ hr
     exact lf
    ·have hr := ifN1 hr hc
     repeat refine gA ?_
     replace hr := goodC_out hr
     obtain ⟨hg5, hr⟩ := of_guard1 hr
     obtain ⟨hg6, hr⟩ := of_guard1 hr
     repeat refine gA ?_
     refine S.sees [2, 3, 4, 5, 6] [(2, 2), (3, 3), (4, 4)] [(18, 18)] ?_ hr
     exact lf
  ·have hr := ifN1 hr hc
   repeat refine gA ?_
   have hr := of_out0 hr
   obtain ⟨v7, hv7, hr⟩ := of_bind0 hr
   try simp only [hv7, oG, oI, true_and, and_assoc]
   repeat refine gA ?_
   cases hr
   exact lf
theorem f33 : FnFact Try.prog 33 T33.sp := ⟨⟨Try.f33, Try.func33, by decide, rfl⟩, v33⟩
end

/- martensite/martensitebase.cmpDigits -/
def b52_1 (a0 : List (Int)) (a1 : List (Int)) : (Int) → Ctl (Int) (Int) := fun s1 =>
  if (decide (s1 ≥ 0)) = true then
   if 0 ≤ s1 ∧ s1 < (a0.length : Int) then
    if 0 ≤ s1 ∧ s1 < (a1.length : Int) then
     if (decide ((a0.getD s1.toNat default) < (a1.getD s1.toNat default))) = true then
      .out (some (-1))
      else if 0 ≤ s1 ∧ s1 < (a0.length : Int) then
       if 0 ≤ s1 ∧ s1 < (a1.length : Int) then
        if (decide ((a0.getD s1.toNat default) > (a1.getD s1.toNat default))) = true then
         .out (some 1)
         else .next (IntKind.i64.wrap (s1 - 1))
        else .out none
       else .out none
     else .out none
    else .out none
   else .out (some 0)
def r52 (a0 : List (Int)) (a1 : List (Int)) : Option (Int) :=
  if ((a0.length : Int) != (a1.length : Int)) = true then
   if (decide ((a0.length : Int) < (a1.length : Int))) = true then
    some (-1)
    else some 1
   else iterC (b52_1 a0 a1) 1000000000 (IntKind.i64.wrap ((a0.length : Int) - 1))
def T52 : TSpec qA20 := mkT qE20 qd20 (fun ⟨a0, a1⟩ => r52 a0 a1) qu1 false
theorem TP52 (c0 c1 : D) : T52.sp.pre [.c c0, .c c1] = (eqvArgs (qt20 c0 c1) (qp20 qw20 c0 c1) ∧ (qp20 r52 c0 c1).isSome = true) := (rfl)
theorem TR52 (c0 c1 : D) : T52.sp.res [.c c0, .c c1] = qu1 ((qp20 r52 c0 c1).getD default) := (rfl)
theorem TA52 : T52.sp.alias = false := (rfl)
def tb52 : Fns := lk []
theorem tb52_ok : FnsOk Try.prog tb52 := FnsOk.nil
attribute [go_sem] TP52 TR52 TA52
section
attribute [local go_sem] T52 Try.results52
theorem v52 : Valid Try.prog 52 T52.sp := by
 refine valid_t (fn := Try.f52) (n := 41) ty_ok tb52_ok Try.func52 rfl Try.ntmps52 ?_
 rintro ⟨a0, a1⟩ hx
 obtain ⟨r, hr⟩ := oE (show (r52 a0 a1).isSome = true from hx)
 have hres : T52.res (a0, a1) = qu1 r := by simp only [T52, mkT, hr, oG]
 refine ⟨nL rfl, fun stop S => ?_⟩
 rw [hres] at S
 unfold r52 at hr
 refine S.gx [] ?_
 repeat refine gA ?_
 refine ⟨?_, ?_⟩ <;> intro hc
 ·have hr := ifP hr hc
  repeat refine gA ?_
  refine ⟨?_, ?_⟩ <;> intro hc
  ·have hr := ifP hr hc
   repeat refine gA ?_
   cases hr
   exact lf
  ·have hr := ifN hr hc
   repeat refine gA ?_
   cases hr
   exact lf
 ·have hr := ifN hr hc
  repeat refine gA ?_
  refine S.sees [0, 1, 5] [] [] ?_ (Stop.iter S (fun s1 => ⟨[(0, .c (.d (encF 1 d_I a0))), (1, .c (.d (encF 1 d_I a1))), (5, .c (.d (.int .i64 s1)))], [], []⟩) (b52_1 a0 a1) (fun q => q = r) hr rfl ?_)
  ·exact lf
  ·intro s1 hr
   unfold b52_1 at hr
   refine S.gx [] ?_
   repeat refine gA ?_
   refine ⟨?_, ?_⟩ <;> intro hc
   ·have hr := ifP1 hr hc
    obtain ⟨hg3, hr⟩ := of_guard1 hr
    obtain ⟨hg4, hr⟩ := of_guard1 hr
    repeat refine gA ?_
    refine ⟨?_, ?_⟩ <;> intro hc
    ·have hr := ifP1 hr hc
     repeat refine gA ?_
     have hr := of_out0 hr
     cases hr
     exact lf
    ·have hr := ifN1 hr hc
     obtain ⟨hg1, hr⟩ := of_guard1 hr
     obtain ⟨hg2, hr⟩ := of_guard1 hr
     repeat refine gA ?_
     refine ⟨?_, ?_⟩ <;> intro hc
     ·have hr := ifP1 hr hc
      repeat refine gA ?_
      have hr := of_out0 hr
      cases hr
      exact lf
     ·have hr := ifN1 hr hc
      repeat refine gA ?_
      refine S.sees [0, 1, 5] [] [] ?_ hr
      exact lf
   ·have hr := ifN1 hr hc
    repeat refine gA ?_
    have hr := of_out0 hr
    repeat refine gA ?_
    cases hr
    exact lf
theorem f52 : FnFact Try.prog 52 T52.sp := ⟨⟨Try.f52, Try.func52, by decide, rfl⟩, v52⟩
end

/- martensite/martensitebase.digit -/
def r61 (a0 : List (Int)) (a1 : Int) : Option (Int) :=
  if (decide (a1 < (a0.length : Int))) = true then
   if 0 ≤ a1 ∧ a1 < (a0.length : Int) then
    some (a0.getD a1.toNat default)
    else none
   else some 0
def T61 : TSpec qA21 := mkT qE21 qd21 (fun ⟨a0, a1⟩ => r61 a0 a1) qu1 false
theorem TP61 (c0 c1 : D) : T61.sp.pre [.c c0, .c c1] = (eqvArgs (qt21 c0 c1) (qp21 qw21 c0 c1) ∧ (qp21 r61 c0 c1).isSome = true) := (rfl)
theorem TR61 (c0 c1 : D) : T61.sp.res [.c c0, .c c1] = qu1 ((qp21 r61 c0 c1).getD default) := (rfl)
theorem TA61 : T61.sp.alias = false := (rfl)
def tb61 : Fns := lk []
theorem tb61_ok : FnsOk Try.prog tb61 := FnsOk.nil
attribute [go_sem] TP61 TR61 TA61
section
attribute [local go_sem] T61 Try.results61
theorem v61 : Valid Try.prog 61 T61.sp := by
 refine valid_t (fn := Try.f61) (n := 13) ty_ok tb61_ok Try.func61 rfl Try.ntmps61 ?_
 rintro ⟨a0, a1⟩ hx
 obtain ⟨r, hr⟩ := oE (show (r61 a0 a1).isSome = true from hx)
 have hres : T61.res (a0, a1) = qu1 r := by simp only [T61, mkT, hr, oG]
 refine ⟨nL rfl, fun stop S => ?_⟩
 rw [hres] at S
 unfold r61 at hr
 refine S.gx [] ?_
 repeat refine gA ?_
 refine ⟨?_, ?_⟩ <;> intro hc
 ·have hr := ifP hr hc
  obtain ⟨hg1, hr⟩ := of_guard0 hr
  repeat refine gA ?_
  cases hr
  exact lf
 ·have hr := ifN hr hc
  repeat refine gA ?_
  cases hr
  exact lf
theorem f61 : FnFact Try.prog 61 T61.sp := ⟨⟨Try.f61, Try.func61, by decide, rfl⟩, v61⟩
end

/- martensite/martensitebase.subDigits -/
def b53_1 (a0 : List (Int)) (a1 : List (Int)) : ((List (Int)) × Int × Int) → Ctl ((List (Int)) × Int × Int) ((List (Int))) := fun s1 =>
  if (decide (s1.2.2 < (a0.length : Int))) = true then
   if 0 ≤ s1.2.2 ∧ s1.2.2 < (a0.length : Int) then
    bindC (r61 a1 s1.2.2) fun v1 =>
     if (decide ((IntKind.i64.wrap ((IntKind.i64.wrap ((a0.getD s1.2.2.toNat default) - v1)) - s1.2.1)) < 0)) = true then
      if (s1.1.length + 1) * 8 ≤ 140737488355328 ∧ s1.1.length + 1 ≤ 9223372036854775807 then
       .next (s1.1 ++ [IntKind.i64.wrap ((IntKind.i64.wrap ((IntKind.i64.wrap ((a0.getD s1.2.2.toNat default) - v1)) - s1.2.1)) + 1000000000)], 1, IntKind.i64.wrap (s1.2.2 + 1))
       else .out none
      else if (s1.1.length + 1) * 8 ≤ 140737488355328 ∧ s1.1.length + 1 ≤ 9223372036854775807 then
       .next (s1.1 ++ [IntKind.i64.wrap ((IntKind.i64.wrap ((a0.getD s1.2.2.toNat default) - v1)) - s1.2.1)], 0, IntKind.i64.wrap (s1.2.2 + 1))
       else .out none
    else .out none
   else .out ((r59 s1.1).bind fun v5 =>
    some v5)
def r53 (a0 : List (Int)) (a1 : List (Int)) : Option ((List (Int))) :=
  iterC (b53_1 a0 a1) 1000000000 ([], 0, 0)
def T53 : TSpec qA20 := mkT qE20 qd20 (fun ⟨a0, a1⟩ => r53 a0 a1) qu9 true
theorem TP53 (c0 c1 : D) : T53.sp.pre [.c c0, .c c1] = (eqvArgs (qt20 c0 c1) (qp20 qw20 c0 c1) ∧ (qp20 r53 c0 c1).isSome = true) := (rfl)
theorem TR53 (c0 c1 : D) : T53.sp.res [.c c0, .c c1] = qu9 ((qp20 r53 c0 c1).getD default) := (rfl)
theorem TA53 : T53.sp.alias = true := (rfl)
def tb53 : Fns := lk [(59, T59.sp), (61, T61.sp)]
theorem tb53_ok : FnsOk Try.prog tb53 := .cons f59 (.cons f61 (FnsOk.nil))
theorem tb53_59 : tb53 59 = some T59.sp := rfl
theorem tb53_61 : tb53 61 = some T61.sp := rfl
attribute [go_sem] TP53 TR53 TA53
section
attribute [local go_sem] T53 tb53_59 tb53_61 Try.results53
theorem v53 : Valid Try.prog 53 T53.sp := by
 refine valid_t (fn := Try.f53) (n := 35) ty_ok tb53_ok Try.func53 rfl Try.ntmps53 ?_
 rintro ⟨a0, a1⟩ hx
 obtain ⟨r, hr⟩ := oE (show (r53 a0 a1).isSome = true from hx)
 have hres : T53.res (a0, a1) = qu9 r := by simp only [T53, mkT, hr, oG]
 refine ⟨nL rfl, fun stop S => ?_⟩
 rw [hres] at S
 unfold r53 at hr
 refine S.gx [] ?_
 repeat refine gA ?_
 refine S.own0 5 1000500 1 rfl rfl ?_
 refine S.sees [0, 1, 5, 6, 7] [] [(1000500, 1000500)] ?_ (Stop.iter S (fun s1 => ⟨[(0, .c (.d (encF 1 d_I a0))), (1, .c (.d (encF 1 d_I a1))), (5, .c (.own 1000500)), (6, .c (.d (.int .i64 s1.2.1))), (7, .c (.d (.int .i64 s1.2.2)))], [], [(1000500, .owned (encF 1 d_I s1.1))]⟩) (b53_1 a0 a1) (fun q => q = r) hr rfl ?_)
 ·exact lf
 ·intro s1 hr
  unfold b53_1 at hr
  refine S.gx [] ?_
  repeat refine gA ?_
  refine ⟨?_, ?_⟩ <;> intro hc
  ·have hr := ifP1 hr hc
   obtain ⟨hg4, hr⟩ := of_guard1 hr
   obtain ⟨v1, hv1, hr⟩ := of_bind1 hr
   try simp only [hv1, oG, oI, true_and, and_assoc]
   repeat refine gA ?_
   refine ⟨?_, ?_⟩ <;> intro hc
   ·have hr := ifP1 hr hc
    obtain ⟨hg2, hr⟩ := of_guard1 hr
    repeat refine gA ?_
    refine S.sees [0, 1, 5, 6, 7] [] [(32, 1000500)] ?_ hr
    exact lf
   ·have hr := ifN1 hr hc
    obtain ⟨hg3, hr⟩ := of_guard1 hr
    repeat refine gA ?_
    refine S.sees [0, 1, 5, 6, 7] [] [(32, 1000500)] ?_ hr
    exact lf
  ·have hr := ifN1 hr hc
   repeat refine gA ?_
   have hr := of_out0 hr
   obtain ⟨v5, hv5, hr⟩ := of_bind0 hr
   try simp only [hv5, oG, oI, true_and, and_assoc]
   repeat refine gA ?_
   cases hr
   exact lf
theorem f53 : FnFact Try.prog 53 T53.sp := ⟨⟨Try.f53, Try.func53, by decide, rfl⟩, v53⟩
end

/- martensite/martensitebase.addDigits -/
def b51_1 (a0 : List (Int)) (a1 : List (Int)) : ((List (Int)) × Int × Int) → Ctl ((List (Int)) × Int × Int) ((List (Int))) := fun s1 =>
  if (((decide (s1.2.2 < (a0.length : Int))) || (decide (s1.2.2 < (a1.length : Int)))) || (decide (s1.2.1 > 0))) = true then
   bindC (r61 a0 s1.2.2) fun v1 =>
    bindC (r61 a1 s1.2.2) fun v2 =>
     if (s1.1.length + 1) * 8 ≤ 140737488355328 ∧ s1.1.length + 1 ≤ 9223372036854775807 then
      .next (s1.1 ++ [(IntKind.i64.wrap ((IntKind.i64.wrap (v1 + v2)) + s1.2.1)).tmod 1000000000], IntKind.i64.wrap ((IntKind.i64.wrap ((IntKind.i64.wrap (v1 + v2)) + s1.2.1)).tdiv 1000000000), IntKind.i64.wrap (s1.2.2 + 1))
      else .out none
   else .out (some s1.1)
def r51 (a0 : List (Int)) (a1 : List (Int)) : Option ((List (Int))) :=
  iterC (b51_1 a0 a1) 1000000000 ([], 0, 0)
def T51 : TSpec qA20 := mkT qE20 qd20 (fun ⟨a0, a1⟩ => r51 a0 a1) qu12 false
theorem TP51 (c0 c1 : D) : T51.sp.pre [.c c0, .c c1] = (eqvArgs (qt20 c0 c1) (qp20 qw20 c0 c1) ∧ (qp20 r51 c0 c1).isSome = true) := (rfl)
theorem TR51 (c0 c1 : D) : T51.sp.res [.c c0, .c c1] = qu12 ((qp20 r51 c0 c1).getD default) := (rfl)
theorem TA51 : T51.sp.alias = false := (rfl)
def tb51 : Fns := lk [(61, T61.sp)]
theorem tb51_ok : FnsOk Try.prog tb51 := .cons f61 (FnsOk.nil)
theorem tb51_61 : tb51 61 = some T61.sp := rfl
attribute [go_sem] TP51 TR51 TA51
section
attribute [local go_sem] T51 tb51_61 Try.results51
theorem v51 : Valid Try.prog 51 T51.sp := by
 refine valid_t (fn := Try.f51) (n := 42) ty_ok tb51_ok Try.func51 rfl Try.ntmps51 ?_
 rintro ⟨a0, a1⟩ hx
 obtain ⟨r, hr⟩ := oE (show (r51 a0 a1).isSome = true from hx)
 have hres : T51.res (a0, a1) = qu12 r := by simp only [T51, mkT, hr, oG]
 refine ⟨nL rfl, fun stop S => ?_⟩
 rw [hres] at S
 unfold r51 at hr
 refine S.gx [5] ?_
 repeat refine gA ?_
 refine S.own0 5 1000500 1 rfl rfl ?_
 refine S.sees [0, 1, 5, 6, 7] [] [(1000500, 1000500)] ?_ (Stop.iter S (fun s1 => ⟨[(0, .c (.d (encF 1 d_I a0))), (1, .c (.d (encF 1 d_I a1))), (5, .c (.own 1000500)), (6, .c (.d (.int .i64 s1.2.1))), (7, .c (.d (.int .i64 s1.2.2)))], [], [(1000500, .owned (encF 1 d_I s1.1))]⟩) (b51_1 a0 a1) (fun q => q = r) hr rfl ?_)
 ·exact lf
 ·intro s1 hr
  unfold b51_1 at hr
  refine S.gx [5] ?_
  repeat (first | refine gA ?_ | refine gB ?_)
  refine ⟨?_, ?_⟩ <;> intro hc
  ·have hr := ifP1 hr hc
   obtain ⟨v1, hv1, hr⟩ := of_bind1 hr
   obtain ⟨v2, hv2, hr⟩ := of_bind1 hr
   obtain ⟨hg3, hr⟩ := of_guard1 hr
   try simp only [hv1, hv2, Option.getD_some, Option.isSome_some, true_and, and_assoc]
   repeat refine gA ?_
   refine S.prune [0, 1, 5, 6, 7] ?_
   refine S.gx [] ?_
   repeat refine gA ?_
   refine S.sees [0, 1, 5, 6, 7] [] [(38, 1000500)] ?_ hr
   exact lf
  ·have hr := ifN1 hr hc
   repeat refine gA ?_
   have hr := of_out0 hr
   repeat refine gA ?_
   cases hr
   exact lf
theorem f51 : FnFact Try.prog 51 T51.sp := ⟨⟨Try.f51, Try.func51, by decide, rfl⟩, v51⟩
end

/- martensite/martensitebase.WideAdd -/
def r32 (x0 : Int) (x1 : List (Int)) (x3 : Int) (x2 : List (Int)) : Option (Int × (List (Int))) :=
  if (x0 == 0) = true then
   some (x3, x2)
   else if (x3 == 0) = true then
    some (x0, x1)
    else if (x0 == x3) = true then
     (r51 x1 x2).bind fun v1 =>
      (r46 x0 v1).bind fun v2 =>
       some (v2.1, v2.2)
     else (r52 x1 x2).bind fun v3 =>
      if (v3 == 0) = true then
       some (0, [])
       else if (decide (v3 > 0)) = true then
        (r53 x1 x2).bind fun v4 =>
         (r46 x0 v4).bind fun v5 =>
          some (v5.1, v5.2)
        else (r53 x2 x1).bind fun v6 =>
         (r46 x3 v6).bind fun v7 =>
          some (v7.1, v7.2)
def T32 : TSpec qA19 := mkT qE19 qd19 (fun ⟨x0, x1, x3, x2⟩ => r32 x0 x1 x3 x2) qu10 true
theorem TP32 (c0 c1 c2 c3 : D) : T32.sp.pre [.agg [c0, c1], .agg [c2, c3]] = (eqvArgs (qt19 c0 c1 c2 c3) (qp19 qw19 c0 c1 c2 c3) ∧ (qp19 r32 c0 c1 c2 c3).isSome = true) := (rfl)
theorem TR32 (c0 c1 c2 c3 : D) : T32.sp.res [.agg [c0, c1], .agg [c2, c3]] = qu10 ((qp19 r32 c0 c1 c2 c3).getD default) := (rfl)
theorem TA32 : T32.sp.alias = true := (rfl)
def tb32 : Fns := lk [(46, T46.sp), (51, T51.sp), (52, T52.sp), (53, T53.sp)]
theorem tb32_ok : FnsOk Try.prog tb32 := .cons f46 (.cons f51 (.cons f52 (.cons f53 (FnsOk.nil))))
theorem tb32_46 : tb32 46 = some T46.sp := rfl
theorem tb32_51 : tb32 51 = some T51.sp := rfl
theorem tb32_52 : tb32 52 = some T52.sp := rfl
theorem tb32_53 : tb32 53 = some T53.sp := rfl
attribute [go_sem] TP32 TR32 TA32
section
attribute [local go_sem] T32 tb32_46 tb32_51 tb32_52 tb32_53 Try.results32
theorem v32 : Valid Try.prog 32 T32.sp := by
 refine valid_t (fn := Try.f32) (n := 53) ty_ok tb32_ok Try.func32 rfl Try.ntmps32 ?_
 rintro ⟨x0, x1, x3, x2⟩ hx
 obtain ⟨r, hr⟩ := oE (show (r32 x0 x1 x3 x2).isSome = true from hx)
 have hres : T32.res (x0, x1, x3, x2) = qu10 r := by simp only [T32, mkT, hr, oG]
 refine ⟨nL rfl, fun stop S => ?_⟩
 rw [hres] at S
 unfold r32 at hr
 refine S.gx [] ?_
 repeat refine gA ?_
 refine ⟨?_, ?_⟩ <;> intro hc
 ·have hr := ifP hr hc
  repeat refine gA ?_
  cases hr
  exact lf
 ·have hr := ifN hr hc
  repeat refine gA ?_
  refine ⟨?_, ?_⟩ <;> intro hc
  ·have hr := ifP hr hc
   repeat refine gA ?_
   cases hr
   exact lf
  ·have hr := ifN hr hc
   repeat refine gA ?_
   refine ⟨?_, ?_⟩ <;> intro hc
   ·have hr := ifP hr hc
    obtain ⟨v1, hv1, hr⟩ := of_bind0 hr
    obtain ⟨v2, hv2, hr⟩ := of_bind0 hr
    try simp only [hv1, hv2, Option.getD_some, Option.isSome_some, true_and, and_assoc]
    repeat refine gA ?_
    cases hr
    exact lf
   ·have hr := ifN hr hc
    obtain ⟨v3, hv3, hr⟩ := of_bind0 hr
    try simp only [hv3, oG, oI, true_and, and_assoc]
    repeat refine gA ?_
    refine ⟨?_, ?_⟩ <;> intro hc
    ·have hr := ifP hr hc
     repeat refine gA ?_
     cases hr
     exact lf
    ·have hr := ifN hr hc
     repeat refine gA ?_
     refine ⟨?_, ?_⟩ <;> intro hc
     ·have hr := ifP hr hc
      obtain ⟨v4, hv4, hr⟩ := of_bind0 hr
      obtain ⟨v5, hv5, hr⟩ := of_bind0 hr
      try simp only [hv4, hv5, Option.getD_some, Option.isSome_some, true_and, and_assoc]
      repeat refine gA ?_
      cases hr
      exact lf
     ·have hr := ifN hr hc
      obtain ⟨v6, hv6, hr⟩ := of_bind0 hr
      obtain ⟨v7, hv7, hr⟩ := of_bind0 hr
      try simp only [hv6, hv7, Option.getD_some, Option.isSome_some, true_and, and_assoc]
      repeat refine gA ?_
      cases hr
      exact lf
theorem f32 : FnFact Try.prog 32 T32.sp := ⟨⟨Try.f32, Try.func32, by decide, rfl⟩, v32⟩
end
end Go.Proofs.Ytfmjhllkheapeaa

/- Contracts of functions, written by wip/dec. -/
import Derived.Test.YtfmjhllkheapeaaF00
import Derived.Test.YtfmjhllkheapeaaF01
set_option linter.unusedVariables false
set_option linter.unusedSimpArgs false
set_option maxHeartbeats 4000000
set_option maxRecDepth 20000
namespace Go.Proofs.Ytfmjhllkheapeaa
open Go.Abs
abbrev qA11 := Int × Int × Int × Int × Int
def qw11 (a0 : Int) (a1 : Int) (a2 : Int) (a3 : Int) (a4 : Int) : List Arg := [.agg [.int .i64 a0, .int .i64 a1], .agg [.int .i64 a2, .int .i64 a3], .c (.int .i64 a4)]
def qE11 : qA11 → List Arg := fun ⟨a0, a1, a2, a3, a4⟩ => qw11 a0 a1 a2 a3 a4
def qd11 (a : List Arg) : qA11 := (dInt (aCell a 0 0), dInt (aCell a 0 1), dInt (aCell a 1 0), dInt (aCell a 1 1), dInt (aCell a 2 0))
def qp11 {β : Type} (f : Int → Int → Int → Int → Int → β) (c0 c1 c2 c3 c4 : D) : β := f (dInt c0) (dInt c1) (dInt c2) (dInt c3) (dInt c4)
def qt11 (c0 c1 c2 c3 c4 : D) : List Arg := [.agg [c0, c1], .agg [c2, c3], .c c4]
attribute [go_sem] qw11 qp11 qt11 qE11
abbrev qA12 := (List (Int × Int)) × Int
def qw12 (a0 : List (Int × Int)) (a1 : Int) : List Arg := [.c (encF 2 d_II a0), .c (.int .i64 a1)]
def qE12 : qA12 → List Arg := fun ⟨a0, a1⟩ => qw12 a0 a1
def qd12 (a : List Arg) : qA12 := (decF g_II (aCell a 0 0), dInt (aCell a 1 0))
def qp12 {β : Type} (f : (List (Int × Int)) → Int → β) (c0 c1 : D) : β := f (decF g_II c0) (dInt c1)
def qt12 (c0 c1 : D) : List Arg := [.c c0, .c c1]
attribute [go_sem] qw12 qp12 qt12 qE12
abbrev qA13 := (List (Int × Int × Int × Int)) × Int
def qw13 (a0 : List (Int × Int × Int × Int)) (a1 : Int) : List Arg := [.agg [encF 4 d_IIII a0], .c (.int .i64 a1)]
def qE13 : qA13 → List Arg := fun ⟨a0, a1⟩ => qw13 a0 a1
def qd13 (a : List Arg) : qA13 := (decF g_IIII (aCell a 0 0), dInt (aCell a 1 0))
def qp13 {β : Type} (f : (List (Int × Int × Int × Int)) → Int → β) (c0 c1 : D) : β := f (decF g_IIII c0) (dInt c1)
def qt13 (c0 c1 : D) : List Arg := [.agg [c0], .c c1]
attribute [go_sem] qw13 qp13 qt13 qE13
abbrev qA14 := Int × Int × Int
def qw14 (a0 : Int) (a1 : Int) (a2 : Int) : List Arg := [.agg [.int .i64 a0, .int .i64 a1, .int .i64 a2]]
def qE14 : qA14 → List Arg := fun ⟨a0, a1, a2⟩ => qw14 a0 a1 a2
def qd14 (a : List Arg) : qA14 := (dInt (aCell a 0 0), dInt (aCell a 0 1), dInt (aCell a 0 2))
def qp14 {β : Type} (f : Int → Int → Int → β) (c0 c1 c2 : D) : β := f (dInt c0) (dInt c1) (dInt c2)
def qt14 (c0 c1 c2 : D) : List Arg := [.agg [c0, c1, c2]]
attribute [go_sem] qw14 qp14 qt14 qE14
abbrev qA15 := Int × Int × Int × Int
def qw15 (a0 : Int) (a1 : Int) (a2 : Int) (a3 : Int) : List Arg := [.agg [.int .i64 a0, .int .i64 a1, .int .i64 a2], .c (.int .i64 a3)]
def qE15 : qA15 → List Arg := fun ⟨a0, a1, a2, a3⟩ => qw15 a0 a1 a2 a3
def qd15 (a : List Arg) : qA15 := (dInt (aCell a 0 0), dInt (aCell a 0 1), dInt (aCell a 0 2), dInt (aCell a 1 0))
def qp15 {β : Type} (f : Int → Int → Int → Int → β) (c0 c1 c2 c3 : D) : β := f (dInt c0) (dInt c1) (dInt c2) (dInt c3)
def qt15 (c0 c1 c2 c3 : D) : List Arg := [.agg [c0, c1, c2], .c c3]
attribute [go_sem] qw15 qp15 qt15 qE15
def qu6 (v : Int × Int × Bool) : List RV := [.agg [.d (.int .i64 v.1), .d (.int .i64 v.2.1)], .c (.d (.bool v.2.2))]
attribute [go_sem] qu6
def qu7 (v : Int × Int × Int × Int × Int) : List RV := [.agg [.d (.int .i64 v.1), .d (.int .i64 v.2.1), .d (.int .i64 v.2.2.1), .d (.int .i64 v.2.2.2.1)], .c (.d (.int .i64 v.2.2.2.2))]
attribute [go_sem] qu7
def qu8 (v : Int × Int × Int) : List RV := [.agg [.d (.int .i64 v.1), .d (.int .i64 v.2.1)], .c (.d (.int .i64 v.2.2))]
attribute [go_sem] qu8
/- martensite/inspect.between -/
def r58 (x0 : Int) (x1 : Int) (x2 : Int) (x3 : Int) (a2 : Int) : Option (Int × Int) :=
  some (IntKind.i64.wrap ((IntKind.i64.wrap (x1 * (IntKind.i64.wrap (x2 - x0)))) + (IntKind.i64.wrap ((IntKind.i64.wrap (x3 - x1)) * (IntKind.i64.wrap (a2 - x0))))), IntKind.i64.wrap (x2 - x0))
def T58 : TSpec qA11 := mkT qE11 qd11 (fun ⟨x0, x1, x2, x3, a2⟩ => r58 x0 x1 x2 x3 a2) qu3 false
theorem TP58 (c0 c1 c2 c3 c4 : D) : T58.sp.pre [.agg [c0, c1], .agg [c2, c3], .c c4] = (eqvArgs (qt11 c0 c1 c2 c3 c4) (qp11 qw11 c0 c1 c2 c3 c4) ∧ (qp11 r58 c0 c1 c2 c3 c4).isSome = true) := (rfl)
theorem TR58 (c0 c1 c2 c3 c4 : D) : T58.sp.res [.agg [c0, c1], .agg [c2, c3], .c c4] = qu3 ((qp11 r58 c0 c1 c2 c3 c4).getD default) := (rfl)
theorem TA58 : T58.sp.alias = false := (rfl)
def tb58 : Fns := lk []
theorem tb58_ok : FnsOk Try.prog tb58 := FnsOk.nil
attribute [go_sem] TP58 TR58 TA58
section
attribute [local go_sem] T58 Try.results58
theorem v58 : Valid Try.prog 58 T58.sp := by
 refine valid_t (fn := Try.f58) (n := 29) ty_ok tb58_ok Try.func58 rfl Try.ntmps58 ?_
 rintro ⟨x0, x1, x2, x3, a2⟩ hx
 obtain ⟨r, hr⟩ := oE (show (r58 x0 x1 x2 x3 a2).isSome = true from hx)
 have hres : T58.res (x0, x1, x2, x3, a2) = qu3 r := by simp only [T58, mkT, hr, oG]
 refine ⟨nL rfl, fun stop S => ?_⟩
 rw [hres] at S
 unfold r58 at hr
 refine S.gx [] ?_
 repeat refine gA ?_
 cases hr
 exact lf
theorem f58 : FnFact Try.prog 58 T58.sp := ⟨⟨Try.f58, Try.func58, by decide, rfl⟩, v58⟩
end

/- (martensite/inspect.curve).falls -/
def r41 (a0 : List (Int × Int)) (a1 : Int) : Option (Int × Int × Bool) :=
  (r56 a0 a1).bind fun v1 =>
   if (decide (v1 < 0)) = true then
    some (0, 0, false)
    else if (v1 == 0) = true then
     if 0 ≤ 0 ∧ 0 < (a0.length : Int) then
      (r27 ((a0.getD 0 default).1) 1).bind fun v2 =>
       some (v2.1, v2.2, true)
      else none
     else if 0 ≤ v1 ∧ v1 < (a0.length : Int) then
      if 0 ≤ v1 ∧ v1 < (a0.length : Int) then
       if 0 ≤ IntKind.i64.wrap (v1 - 1) ∧ IntKind.i64.wrap (v1 - 1) < (a0.length : Int) then
        if 0 ≤ IntKind.i64.wrap (v1 - 1) ∧ IntKind.i64.wrap (v1 - 1) < (a0.length : Int) then
         (r58 ((a0.getD v1.toNat default).2) ((a0.getD v1.toNat default).1) ((a0.getD (IntKind.i64.wrap (v1 - 1)).toNat default).2) ((a0.getD (IntKind.i64.wrap (v1 - 1)).toNat default).1) a1).bind fun v4 =>
          (r27 v4.1 v4.2).bind fun v5 =>
           some (v5.1, v5.2, true)
         else none
        else none
       else none
      else none
def T41 : TSpec qA12 := mkT qE12 qd12 (fun ⟨a0, a1⟩ => r41 a0 a1) qu6 false
theorem TP41 (c0 c1 : D) : T41.sp.pre [.c c0, .c c1] = (eqvArgs (qt12 c0 c1) (qp12 qw12 c0 c1) ∧ (qp12 r41 c0 c1).isSome = true) := (rfl)
theorem TR41 (c0 c1 : D) : T41.sp.res [.c c0, .c c1] = qu6 ((qp12 r41 c0 c1).getD default) := (rfl)
theorem TA41 : T41.sp.alias = false := (rfl)
def tb41 : Fns := lk [(27, T27.sp), (56, T56.sp), (58, T58.sp)]
theorem tb41_ok : FnsOk Try.prog tb41 := .cons f27 (.cons f56 (.cons f58 (FnsOk.nil)))
theorem tb41_27 : tb41 27 = some T27.sp := rfl
theorem tb41_56 : tb41 56 = some T56.sp := rfl
theorem tb41_58 : tb41 58 = some T58.sp := rfl
attribute [go_sem] TP41 TR41 TA41
section
attribute [local go_sem] T41 tb41_27 tb41_56 tb41_58 Try.results41
theorem v41 : Valid Try.prog 41 T41.sp := by
 refine valid_t (fn := Try.f41) (n := 49) ty_ok tb41_ok Try.func41 rfl Try.ntmps41 ?_
 rintro ⟨a0, a1⟩ hx
 obtain ⟨r, hr⟩ := oE (show (r41 a0 a1).isSome = true from hx)
 have hres : T41.res (a0, a1) = qu6 r := by simp only [T41, mkT, hr, oG]
 refine ⟨nL rfl, fun stop S => ?_⟩
 rw [hres] at S
 unfold r41 at hr
 refine S.gx [] ?_
 obtain ⟨v1, hv1, hr⟩ := of_bind0 hr
 try simp only [hv1, oG, oI, true_and, and_assoc]
 repeat refine gA ?_
 refine ⟨?_, ?_⟩ <;> intro hc
 ·have hr := ifP hr hc
  repeat refine gA ?_
  cases hr
  exact lf
 ·have hr := ifN hr hc
  repeat refine gA ?_
  refine ⟨?_, ?_⟩ <;> intro hc
  ·have hr := ifP hr hc
   obtain ⟨hg3, hr⟩ := of_guard0 hr
   obtain ⟨v2, hv2, hr⟩ := of_bind0 hr
   try simp only [hv2, oG, oI, true_and, and_assoc]
   repeat refine gA ?_
   cases hr
   exact lf
  ·have hr := ifN hr hc
   obtain ⟨hg6, hr⟩ := of_guard0 hr
   obtain ⟨hg7, hr⟩ := of_guard0 hr
   obtain ⟨hg8, hr⟩ := of_guard0 hr
   obtain ⟨hg9, hr⟩ := of_guard0 hr
   obtain ⟨v4, hv4, hr⟩ := of_bind0 hr
   obtain ⟨v5, hv5, hr⟩ := of_bind0 hr
   try simp only [hv4, hv5, Option.getD_some, Option.isSome_some, true_and, and_assoc]
   repeat refine gA ?_
   cases hr
   exact lf
theorem f41 : FnFact Try.prog 41 T41.sp := ⟨⟨Try.f41, Try.func41, by decide, rfl⟩, v41⟩
end

/- martensite/inspect.CaseOf -/
def r20 (x0 : List (Int × Int × Int × Int)) (a1 : Int) : Option (Int × Int × Int × Int × Int) :=
  (r38 x0).bind fun v1 =>
   (r39 a1).bind fun v2 =>
    (r35 v2 2).bind fun v3 =>
     (r24 [v1, v3]).bind fun v4 =>
      if (v4 != 0) = true then
       some (0, 0, 0, 0, v4)
       else (r40 x0).bind fun v5 =>
        if 0 ≤ 0 ∧ 0 < (v5.2.length : Int) then
         if (decide (((v5.2.getD 0 default).2) < a1)) = true then
          some (0, 0, 0, 0, 12)
          else (r41 v5.2 a1).bind fun v6 =>
           if (!v6.2.2) = true then
            some (0, 0, 0, 0, 21)
            else (r41 v5.1 a1).bind fun v7 =>
             some (v7.1, v7.2.1, v6.1, v6.2.1, 0)
         else none
def T20 : TSpec qA13 := mkT qE13 qd13 (fun ⟨x0, a1⟩ => r20 x0 a1) qu7 false
theorem TP20 (c0 c1 : D) : T20.sp.pre [.agg [c0], .c c1] = (eqvArgs (qt13 c0 c1) (qp13 qw13 c0 c1) ∧ (qp13 r20 c0 c1).isSome = true) := (rfl)
theorem TR20 (c0 c1 : D) : T20.sp.res [.agg [c0], .c c1] = qu7 ((qp13 r20 c0 c1).getD default) := (rfl)
theorem TA20 : T20.sp.alias = false := (rfl)
def tb20 : Fns := lk [(24, T24.sp), (35, T35.sp), (38, T38.sp), (39, T39.sp), (40, T40.sp), (41, T41.sp)]
theorem tb20_ok : FnsOk Try.prog tb20 := .cons f24 (.cons f35 (.cons f38 (.cons f39 (.cons f40 (.cons f41 (FnsOk.nil))))))
theorem tb20_24 : tb20 24 = some T24.sp := rfl
theorem tb20_35 : tb20 35 = some T35.sp := rfl
theorem tb20_38 : tb20 38 = some T38.sp := rfl
theorem tb20_39 : tb20 39 = some T39.sp := rfl
theorem tb20_40 : tb20 40 = some T40.sp := rfl
theorem tb20_41 : tb20 41 = some T41.sp := rfl
attribute [go_sem] TP20 TR20 TA20
section
attribute [local go_sem] T20 tb20_24 tb20_35 tb20_38 tb20_39 tb20_40 tb20_41 Try.results20
theorem v20 : Valid Try.prog 20 T20.sp := by
 refine valid_t (fn := Try.f20) (n := 54) ty_ok tb20_ok Try.func20 rfl Try.ntmps20 ?_
 rintro ⟨x0, a1⟩ hx
 obtain ⟨r, hr⟩ := oE (show (r20 x0 a1).isSome = true from hx)
 have hres : T20.res (x0, a1) = qu7 r := by simp only [T20, mkT, hr, oG]
 refine ⟨nL rfl, fun stop S => ?_⟩
 rw [hres] at S
 unfold r20 at hr
 refine S.gx [8] ?_
 obtain ⟨v1, hv1, hr⟩ := of_bind0 hr
 obtain ⟨v2, hv2, hr⟩ := of_bind0 hr
 obtain ⟨v3, hv3, hr⟩ := of_bind0 hr
 obtain ⟨v4, hv4, hr⟩ := of_bind0 hr
 try simp only [hv1, hv2, hv3, hv4, Option.getD_some, Option.isSome_some, true_and, and_assoc]
 repeat refine gA ?_
 refine ⟨?_, ?_⟩ <;> intro hc
 ·have hr := ifP hr hc
  repeat refine gA ?_
  cases hr
  exact lf
 ·have hr := ifN hr hc
  obtain ⟨v5, hv5, hr⟩ := of_bind0 hr
  obtain ⟨hg8, hr⟩ := of_guard0 hr
  try simp only [hv5, oG, oI, true_and, and_assoc]
  repeat refine gA ?_
  refine ⟨?_, ?_⟩ <;> intro hc
  ·have hr := ifP hr hc
   repeat refine gA ?_
   cases hr
   exact lf
  ·have hr := ifN hr hc
   obtain ⟨v6, hv6, hr⟩ := of_bind0 hr
   try simp only [hv6, oG, oI, true_and, and_assoc]
   repeat refine gA ?_
   refine S.prune [1, 4, 7, 9, 10] ?_
   refine S.gx [] ?_
   repeat refine gA ?_
   refine ⟨?_, ?_⟩ <;> intro hc
   ·have hr := ifP hr hc
    repeat refine gA ?_
    cases hr
    exact lf
   ·have hr := ifN hr hc
    obtain ⟨v7, hv7, hr⟩ := of_bind0 hr
    try simp only [hv7, oG, oI, true_and, and_assoc]
    repeat refine gA ?_
    cases hr
    exact lf
theorem f20 : FnFact Try.prog 20 T20.sp := ⟨⟨Try.f20, Try.func20, by decide, rfl⟩, v20⟩
end

/- martensite/inspect.isLot -/
def r36 (a0 : Int) : Option (Bool) :=
  (r42 a0 1 30).bind fun v1 =>
   some v1
def T36 : TSpec qA4 := mkT qE4 qd4 r36 qu2 false
theorem TP36 (c0 : D) : T36.sp.pre [.c c0] = (eqvArgs (qt4 c0) (qp4 qw4 c0) ∧ (qp4 r36 c0).isSome = true) := (rfl)
theorem TR36 (c0 : D) : T36.sp.res [.c c0] = qu2 ((qp4 r36 c0).getD default) := (rfl)
theorem TA36 : T36.sp.alias = false := (rfl)
def tb36 : Fns := lk [(42, T42.sp)]
theorem tb36_ok : FnsOk Try.prog tb36 := .cons f42 (FnsOk.nil)
theorem tb36_42 : tb36 42 = some T42.sp := rfl
attribute [go_sem] TP36 TR36 TA36
section
attribute [local go_sem] T36 tb36_42 Try.results36
theorem v36 : Valid Try.prog 36 T36.sp := by
 refine valid_t (fn := Try.f36) (n := 5) ty_ok tb36_ok Try.func36 rfl Try.ntmps36 ?_
 rintro a0 hx
 obtain ⟨r, hr⟩ := oE (show (r36 a0).isSome = true from hx)
 have hres : T36.res a0 = qu2 r := by simp only [T36, mkT, hr, oG]
 refine ⟨nL rfl, fun stop S => ?_⟩
 rw [hres] at S
 unfold r36 at hr
 refine S.gx [] ?_
 obtain ⟨v1, hv1, hr⟩ := of_bind0 hr
 try simp only [hv1, oG, oI, true_and, and_assoc]
 repeat refine gA ?_
 cases hr
 exact lf
theorem f36 : FnFact Try.prog 36 T36.sp := ⟨⟨Try.f36, Try.func36, by decide, rfl⟩, v36⟩
end

/- martensite/inspect.planErr -/
def r25 (x1 : Int) (x0 : Int) (x2 : Int) : Option (Int) :=
  (r36 x1).bind fun v1 =>
   if v1 = true → (r42 x0 1 x1).isSome = true then
    if (v1 && ((r42 x0 1 x1).getD default)) = true → (r42 x2 0 x0).isSome = true then
     (r35 ((v1 && ((r42 x0 1 x1).getD default)) && ((r42 x2 0 x0).getD default)) 2).bind fun v2 =>
      some v2
     else none
    else none
def T25 : TSpec qA14 := mkT qE14 qd14 (fun ⟨x1, x0, x2⟩ => r25 x1 x0 x2) qu1 false
theorem TP25 (c0 c1 c2 : D) : T25.sp.pre [.agg [c0, c1, c2]] = (eqvArgs (qt14 c0 c1 c2) (qp14 qw14 c0 c1 c2) ∧ (qp14 r25 c0 c1 c2).isSome = true) := (rfl)
theorem TR25 (c0 c1 c2 : D) : T25.sp.res [.agg [c0, c1, c2]] = qu1 ((qp14 r25 c0 c1 c2).getD default) := (rfl)
theorem TA25 : T25.sp.alias = false := (rfl)
def tb25 : Fns := lk [(35, T35.sp), (36, T36.sp), (42, T42.sp)]
theorem tb25_ok : FnsOk Try.prog tb25 := .cons f35 (.cons f36 (.cons f42 (FnsOk.nil)))
theorem tb25_35 : tb25 35 = some T35.sp := rfl
theorem tb25_36 : tb25 36 = some T36.sp := rfl
theorem tb25_42 : tb25 42 = some T42.sp := rfl
attribute [go_sem] TP25 TR25 TA25
section
attribute [local go_sem] T25 tb25_35 tb25_36 tb25_42 Try.results25
theorem v25 : Valid Try.prog 25 T25.sp := by
 refine valid_t (fn := Try.f25) (n := 21) ty_ok tb25_ok Try.func25 rfl Try.ntmps25 ?_
 rintro ⟨x1, x0, x2⟩ hx
 obtain ⟨r, hr⟩ := oE (show (r25 x1 x0 x2).isSome = true from hx)
 have hres : T25.res (x1, x0, x2) = qu1 r := by simp only [T25, mkT, hr, oG]
 refine ⟨nL rfl, fun stop S => ?_⟩
 rw [hres] at S
 unfold r25 at hr
 refine S.gx [] ?_
 obtain ⟨v1, hv1, hr⟩ := of_bind0 hr
 obtain ⟨hg3, hr⟩ := of_guard0 hr
 obtain ⟨hg4, hr⟩ := of_guard0 hr
 obtain ⟨v2, hv2, hr⟩ := of_bind0 hr
 try simp only [hv1, hv2, Option.getD_some, Option.isSome_some, true_and, and_assoc]
 repeat (first | refine gG hg3 ?_ | refine gG hg4 ?_ | refine gA ?_ | refine gB ?_)
 cases hr
 exact lf
theorem f25 : FnFact Try.prog 25 T25.sp := ⟨⟨Try.f25, Try.func25, by decide, rfl⟩, v25⟩
end

/- martensite/inspect.badErr -/
def r26 (a0 : Int) (a1 : Int) : Option (Int) :=
  (r42 a1 0 a0).bind fun v1 =>
   (r35 v1 2).bind fun v2 =>
    some v2
def T26 : TSpec qA10 := mkT qE10 qd10 (fun ⟨a0, a1⟩ => r26 a0 a1) qu1 false
theorem TP26 (c0 c1 : D) : T26.sp.pre [.c c0, .c c1] = (eqvArgs (qt10 c0 c1) (qp10 qw10 c0 c1) ∧ (qp10 r26 c0 c1).isSome = true) := (rfl)
theorem TR26 (c0 c1 : D) : T26.sp.res [.c c0, .c c1] = qu1 ((qp10 r26 c0 c1).getD default) := (rfl)
theorem TA26 : T26.sp.alias = false := (rfl)
def tb26 : Fns := lk [(35, T35.sp), (42, T42.sp)]
theorem tb26_ok : FnsOk Try.prog tb26 := .cons f35 (.cons f42 (FnsOk.nil))
theorem tb26_35 : tb26 35 = some T35.sp := rfl
theorem tb26_42 : tb26 42 = some T42.sp := rfl
attribute [go_sem] TP26 TR26 TA26
section
attribute [local go_sem] T26 tb26_35 tb26_42 Try.results26
theorem v26 : Valid Try.prog 26 T26.sp := by
 refine valid_t (fn := Try.f26) (n := 9) ty_ok tb26_ok Try.func26 rfl Try.ntmps26 ?_
 rintro ⟨a0, a1⟩ hx
 obtain ⟨r, hr⟩ := oE (show (r26 a0 a1).isSome = true from hx)
 have hres : T26.res (a0, a1) = qu1 r := by simp only [T26, mkT, hr, oG]
 refine ⟨nL rfl, fun stop S => ?_⟩
 rw [hres] at S
 unfold r26 at hr
 refine S.gx [] ?_
 obtain ⟨v1, hv1, hr⟩ := of_bind0 hr
 obtain ⟨v2, hv2, hr⟩ := of_bind0 hr
 try simp only [hv1, hv2, Option.getD_some, Option.isSome_some, true_and, and_assoc]
 repeat refine gA ?_
 cases hr
 exact lf
theorem f26 : FnFact Try.prog 26 T26.sp := ⟨⟨Try.f26, Try.func26, by decide, rfl⟩, v26⟩
end

/- martensite/inspect.choose -/
def b44_1 (a0 : Int) (a1 : Int) : (Int × Int) → Ctl (Int × Int) (Int) := fun s1 =>
  if (decide (s1.2 < a1)) = true then
   if (IntKind.i64.wrap (s1.2 + 1)) ≠ 0 then
    .next (IntKind.i64.wrap ((IntKind.i64.wrap (s1.1 * (IntKind.i64.wrap (a0 - s1.2)))).tdiv (IntKind.i64.wrap (s1.2 + 1))), IntKind.i64.wrap (s1.2 + 1))
    else .out none
   else .out (some s1.1)
def r44 (a0 : Int) (a1 : Int) : Option (Int) :=
  (r42 a1 0 a0).bind fun v1 =>
   if (!v1) = true then
    some 0
    else iterC (b44_1 a0 a1) 1000000000 (1, 0)
def T44 : TSpec qA10 := mkT qE10 qd10 (fun ⟨a0, a1⟩ => r44 a0 a1) qu1 false
theorem TP44 (c0 c1 : D) : T44.sp.pre [.c c0, .c c1] = (eqvArgs (qt10 c0 c1) (qp10 qw10 c0 c1) ∧ (qp10 r44 c0 c1).isSome = true) := (rfl)
theorem TR44 (c0 c1 : D) : T44.sp.res [.c c0, .c c1] = qu1 ((qp10 r44 c0 c1).getD default) := (rfl)
theorem TA44 : T44.sp.alias = false := (rfl)
def tb44 : Fns := lk [(42, T42.sp)]
theorem tb44_ok : FnsOk Try.prog tb44 := .cons f42 (FnsOk.nil)
theorem tb44_42 : tb44 42 = some T42.sp := rfl
attribute [go_sem] TP44 TR44 TA44
section
attribute [local go_sem] T44 tb44_42 Try.results44
theorem v44 : Valid Try.prog 44 T44.sp := by
 refine valid_t (fn := Try.f44) (n := 25) ty_ok tb44_ok Try.func44 rfl Try.ntmps44 ?_
 rintro ⟨a0, a1⟩ hx
 obtain ⟨r, hr⟩ := oE (show (r44 a0 a1).isSome = true from hx)
 have hres : T44.res (a0, a1) = qu1 r := by simp only [T44, mkT, hr, oG]
 refine ⟨nL rfl, fun stop S => ?_⟩
 rw [hres] at S
 unfold r44 at hr
 refine S.gx [] ?_
 obtain ⟨v1, hv1, hr⟩ := of_bind0 hr
 try simp only [hv1, oG, oI, true_and, and_assoc]
 repeat refine gA ?_
 refine ⟨?_, ?_⟩ <;> intro hc
 ·have hr := ifP hr hc
  repeat refine gA ?_
  cases hr
  exact lf
 ·have hr := ifN hr hc
  repeat refine gA ?_
  refine S.sees [0, 5, 11, 12] [] [] ?_ (Stop.iter S (fun s1 => ⟨[(0, .c (.d (.int .i64 a0))), (5, .c (.d (.int .i64 s1.1))), (11, .c (.d (.int .i64 a1))), (12, .c (.d (.int .i64 s1.2)))], [], []⟩) (b44_1 a0 a1) (fun q => q = r) hr rfl ?_)
  ·exact lf
  ·intro s1 hr
   unfold b44_1 at hr
   refine S.gx [] ?_
   repeat refine gA ?_
   refine ⟨?_, ?_⟩ <;> intro hc
   ·have hr := ifP1 hr hc
    obtain ⟨hg2, hr⟩ := of_guard1 hr
    repeat refine gA ?_
    refine S.sees [0, 5, 11, 12] [] [] ?_ hr
    exact lf
   ·have hr := ifN1 hr hc
    repeat refine gA ?_
    have hr := of_out0 hr
    repeat refine gA ?_
    cases hr
    exact lf
theorem f44 : FnFact Try.prog 44 T44.sp := ⟨⟨Try.f44, Try.func44, by decide, rfl⟩, v44⟩
end

/- martensite/inspect.accepted -/
def b28_1 (x0 : Int) (x1 : Int) (x2 : Int) (a1 : Int) : (Int × Int) → Ctl (Int × Int) (Int × Int) := fun s1 =>
  if (decide (s1.2 < (IntKind.i64.wrap (x2 + 1)))) = true then
   bindC (r44 a1 s1.2) fun v1 =>
    bindC (r44 (IntKind.i64.wrap (x0 - a1)) (IntKind.i64.wrap (x1 - s1.2))) fun v2 =>
     .next (IntKind.i64.wrap (s1.1 + (IntKind.i64.wrap (v1 * v2))), IntKind.i64.wrap (s1.2 + 1))
   else .out ((r44 x0 x1).bind fun v3 =>
    some (s1.1, v3))
def r28 (x0 : Int) (x1 : Int) (x2 : Int) (a1 : Int) : Option (Int × Int) :=
  iterC (b28_1 x0 x1 x2 a1) 1000000000 (0, 0)
def T28 : TSpec qA15 := mkT qE15 qd15 (fun ⟨x0, x1, x2, a1⟩ => r28 x0 x1 x2 a1) qu3 false
theorem TP28 (c0 c1 c2 c3 : D) : T28.sp.pre [.agg [c0, c1, c2], .c c3] = (eqvArgs (qt15 c0 c1 c2 c3) (qp15 qw15 c0 c1 c2 c3) ∧ (qp15 r28 c0 c1 c2 c3).isSome = true) := (rfl)
theorem TR28 (c0 c1 c2 c3 : D) : T28.sp.res [.agg [c0, c1, c2], .c c3] = qu3 ((qp15 r28 c0 c1 c2 c3).getD default) := (rfl)
theorem TA28 : T28.sp.alias = false := (rfl)
def tb28 : Fns := lk [(44, T44.sp)]
theorem tb28_ok : FnsOk Try.prog tb28 := .cons f44 (FnsOk.nil)
theorem tb28_44 : tb28 44 = some T44.sp := rfl
attribute [go_sem] TP28 TR28 TA28
section
attribute [local go_sem] T28 tb28_44 Try.results28
theorem v28 : Valid Try.prog 28 T28.sp := by
 refine valid_t (fn := Try.f28) (n := 35) ty_ok tb28_ok Try.func28 rfl Try.ntmps28 ?_
 rintro ⟨x0, x1, x2, a1⟩ hx
 obtain ⟨r, hr⟩ := oE (show (r28 x0 x1 x2 a1).isSome = true from hx)
 have hres : T28.res (x0, x1, x2, a1) = qu3 r := by simp only [T28, mkT, hr, oG]
 refine ⟨nL rfl, fun stop S => ?_⟩
 rw [hres] at S
 unfold r28 at hr
 refine S.gx [] ?_
 repeat refine gA ?_
 refine S.sees [1, 2, 4, 9, 10] [(2, 2)] [] ?_ (Stop.iter S (fun s1 => ⟨[(1, .c (.d (.int .i64 a1))), (2, .c (.ref 2 0)), (4, .c (.d (.int .i64 s1.1))), (9, .c (.d (.int .i64 (IntKind.i64.wrap (x2 + 1))))), (10, .c (.d (.int .i64 s1.2)))], [(2, [.d (.int .i64 x0), .d (.int .i64 x1), .d (.int .i64 x2)])], []⟩) (b28_1 x0 x1 x2 a1) (fun q => q = r) hr rfl ?_)
 ·exact lf
 ·intro s1 hr
  unfold b28_1 at hr
  refine S.gx [] ?_
  repeat refine gA ?_
  refine ⟨?_, ?_⟩ <;> intro hc
  ·have hr := ifP1 hr hc
   obtain ⟨v1, hv1, hr⟩ := of_bind1 hr
   obtain ⟨v2, hv2, hr⟩ := of_bind1 hr
   try simp only [hv1, hv2, Option.getD_some, Option.isSome_some, true_and, and_assoc]
   repeat refine gA ?_
   refine S.sees [1, 2, 4, 9, 10] [(2, 2)] [] ?_ hr
   exact lf
  ·have hr := ifN1 hr hc
   repeat refine gA ?_
   have hr := of_out0 hr
   obtain ⟨v3, hv3, hr⟩ := of_bind0 hr
   try simp only [hv3, oG, oI, true_and, and_assoc]
   repeat refine gA ?_
   cases hr
   exact lf
theorem f28 : FnFact Try.prog 28 T28.sp := ⟨⟨Try.f28, Try.func28, by decide, rfl⟩, v28⟩
end

/- martensite/inspect.AcceptanceOf -/
def r8 (x0 : Int) (x1 : Int) (x2 : Int) (a1 : Int) : Option (Int × Int × Int) :=
  (r25 x0 x1 x2).bind fun v1 =>
   (r26 x0 a1).bind fun v2 =>
    (r24 [v1, v2]).bind fun v3 =>
     if (v3 != 0) = true then
      some (0, 0, v3)
      else (r28 x0 x1 x2 a1).bind fun v4 =>
       (r27 v4.1 v4.2).bind fun v5 =>
        some (v5.1, v5.2, 0)
def T8 : TSpec qA15 := mkT qE15 qd15 (fun ⟨x0, x1, x2, a1⟩ => r8 x0 x1 x2 a1) qu8 false
theorem TP8 (c0 c1 c2 c3 : D) : T8.sp.pre [.agg [c0, c1, c2], .c c3] = (eqvArgs (qt15 c0 c1 c2 c3) (qp15 qw15 c0 c1 c2 c3) ∧ (qp15 r8 c0 c1 c2 c3).isSome = true) := (rfl)
theorem TR8 (c0 c1 c2 c3 : D) : T8.sp.res [.agg [c0, c1, c2], .c c3] = qu8 ((qp15 r8 c0 c1 c2 c3).getD default) := (rfl)
theorem TA8 : T8.sp.alias = false := (rfl)
def tb8 : Fns := lk [(24, T24.sp), (25, T25.sp), (26, T26.sp), (27, T27.sp), (28, T28.sp)]
theorem tb8_ok : FnsOk Try.prog tb8 := .cons f24 (.cons f25 (.cons f26 (.cons f27 (.cons f28 (FnsOk.nil)))))
theorem tb8_24 : tb8 24 = some T24.sp := rfl
theorem tb8_25 : tb8 25 = some T25.sp := rfl
theorem tb8_26 : tb8 26 = some T26.sp := rfl
theorem tb8_27 : tb8 27 = some T27.sp := rfl
theorem tb8_28 : tb8 28 = some T28.sp := rfl
attribute [go_sem] TP8 TR8 TA8
section
attribute [local go_sem] T8 tb8_24 tb8_25 tb8_26 tb8_27 tb8_28 Try.results8
theorem v8 : Valid Try.prog 8 T8.sp := by
 refine valid_t (fn := Try.f8) (n := 25) ty_ok tb8_ok Try.func8 rfl Try.ntmps8 ?_
 rintro ⟨x0, x1, x2, a1⟩ hx
 obtain ⟨r, hr⟩ := oE (show (r8 x0 x1 x2 a1).isSome = true from hx)
 have hres : T8.res (x0, x1, x2, a1) = qu8 r := by simp only [T8, mkT, hr, oG]
 refine ⟨nL rfl, fun stop S => ?_⟩
 rw [hres] at S
 unfold r8 at hr
 refine S.gx [] ?_
 obtain ⟨v1, hv1, hr⟩ := of_bind0 hr
 obtain ⟨v2, hv2, hr⟩ := of_bind0 hr
 obtain ⟨v3, hv3, hr⟩ := of_bind0 hr
 try simp only [hv1, hv2, hv3, Option.getD_some, Option.isSome_some, true_and, and_assoc]
 repeat refine gA ?_
 refine ⟨?_, ?_⟩ <;> intro hc
 ·have hr := ifP hr hc
  repeat refine gA ?_
  cases hr
  exact lf
 ·have hr := ifN hr hc
  obtain ⟨v4, hv4, hr⟩ := of_bind0 hr
  obtain ⟨v5, hv5, hr⟩ := of_bind0 hr
  try simp only [hv4, hv5, Option.getD_some, Option.isSome_some, true_and, and_assoc]
  repeat refine gA ?_
  cases hr
  exact lf
theorem f8 : FnFact Try.prog 8 T8.sp := ⟨⟨Try.f8, Try.func8, by decide, rfl⟩, v8⟩
end

/- martensite/martensitebase.Size -/
def r45 (a0 : Int) : Option (Int) :=
  some (if a0 < IntKind.i64.wrap (0 - a0) then IntKind.i64.wrap (0 - a0) else a0)
def T45 : TSpec qA4 := mkT qE4 qd4 r45 qu1 false
theorem TP45 (c0 : D) : T45.sp.pre [.c c0] = (eqvArgs (qt4 c0) (qp4 qw4 c0) ∧ (qp4 r45 c0).isSome = true) := (rfl)
theorem TR45 (c0 : D) : T45.sp.res [.c c0] = qu1 ((qp4 r45 c0).getD default) := (rfl)
theorem TA45 : T45.sp.alias = false := (rfl)
def tb45 : Fns := lk []
theorem tb45_ok : FnsOk Try.prog tb45 := FnsOk.nil
attribute [go_sem] TP45 TR45 TA45
section
attribute [local go_sem] T45 Try.results45
theorem v45 : Valid Try.prog 45 T45.sp := by
 refine valid_t (fn := Try.f45) (n := 7) ty_ok tb45_ok Try.func45 rfl Try.ntmps45 ?_
 rintro a0 hx
 obtain ⟨r, hr⟩ := oE (show (r45 a0).isSome = true from hx)
 have hres : T45.res a0 = qu1 r := by simp only [T45, mkT, hr, oG]
 refine ⟨nL rfl, fun stop S => ?_⟩
 rw [hres] at S
 unfold r45 at hr
 refine S.gx [] ?_
 repeat refine gA ?_
 cases hr
 exact lf
theorem f45 : FnFact Try.prog 45 T45.sp := ⟨⟨Try.f45, Try.func45, by decide, rfl⟩, v45⟩
end

/- martensite/martensitebase.Gcd -/
def b29_1 : (Int × Int) → Ctl (Int × Int) (Int) := fun s1 =>
  if (s1.2 != 0) = true then
   if s1.2 ≠ 0 then
    .next (s1.2, s1.1.tmod s1.2)
    else .out none
   else .out ((r45 s1.1).bind fun v2 =>
    some v2)
def r29 (a0 : Int) (a1 : Int) : Option (Int) :=
  iterC (b29_1) 1000000000 (a0, a1)
def T29 : TSpec qA10 := mkT qE10 qd10 (fun ⟨a0, a1⟩ => r29 a0 a1) qu1 false
theorem TP29 (c0 c1 : D) : T29.sp.pre [.c c0, .c c1] = (eqvArgs (qt10 c0 c1) (qp10 qw10 c0 c1) ∧ (qp10 r29 c0 c1).isSome = true) := (rfl)
theorem TR29 (c0 c1 : D) : T29.sp.res [.c c0, .c c1] = qu1 ((qp10 r29 c0 c1).getD default) := (rfl)
theorem TA29 : T29.sp.alias = false := (rfl)
def tb29 : Fns := lk [(45, T45.sp)]
theorem tb29_ok : FnsOk Try.prog tb29 := .cons f45 (FnsOk.nil)
theorem tb29_45 : tb29 45 = some T45.sp := rfl
attribute [go_sem] TP29 TR29 TA29
section
attribute [local go_sem] T29 tb29_45 Try.results29
theorem v29 : Valid Try.prog 29 T29.sp := by
 refine valid_t (fn := Try.f29) (n := 13) ty_ok tb29_ok Try.func29 rfl Try.ntmps29 ?_
 rintro ⟨a0, a1⟩ hx
 obtain ⟨r, hr⟩ := oE (show (r29 a0 a1).isSome = true from hx)
 have hres : T29.res (a0, a1) = qu1 r := by simp only [T29, mkT, hr, oG]
 refine ⟨nL rfl, fun stop S => ?_⟩
 rw [hres] at S
 unfold r29 at hr
 refine S.gx [] ?_
 repeat refine gA ?_
 refine S.sees [0, 1] [] [] ?_ (Stop.iter S (fun s1 => ⟨[(0, .c (.d (.int .i64 s1.1))), (1, .c (.d (.int .i64 s1.2)))], [], []⟩) (b29_1) (fun q => q = r) hr rfl ?_)
 ·exact lf
 ·intro s1 hr
  unfold b29_1 at hr
  refine S.gx [] ?_
  repeat refine gA ?_
  refine ⟨?_, ?_⟩ <;> intro hc
  ·have hr := ifP1 hr hc
   obtain ⟨hg1, hr⟩ := of_guard1 hr
   repeat refine gA ?_
   refine S.sees [0, 1] [] [] ?_ hr
   exact lf
  ·have hr := ifN1 hr hc
   repeat refine gA ?_
   have hr := of_out0 hr
   obtain ⟨v2, hv2, hr⟩ := of_bind0 hr
   try simp only [hv2, oG, oI, true_and, and_assoc]
   repeat refine gA ?_
   cases hr
   exact lf
theorem f29 : FnFact Try.prog 29 T29.sp := ⟨⟨Try.f29, Try.func29, by decide, rfl⟩, v29⟩
end

/- martensite/martensitebase.Lowest -/
def r22 (a0 : Int) (a1 : Int) : Option (Int × Int) :=
  (r29 a0 a1).bind fun v1 =>
   if (decide (a1 < 0)) = true then
    if (IntKind.i64.wrap (0 - v1)) ≠ 0 then
     if (IntKind.i64.wrap (0 - v1)) ≠ 0 then
      some (IntKind.i64.wrap (a0.tdiv (IntKind.i64.wrap (0 - v1))), IntKind.i64.wrap (a1.tdiv (IntKind.i64.wrap (0 - v1))))
      else none
     else none
    else if v1 ≠ 0 then
     if v1 ≠ 0 then
      some (IntKind.i64.wrap (a0.tdiv v1), IntKind.i64.wrap (a1.tdiv v1))
      else none
     else none
def T22 : TSpec qA10 := mkT qE10 qd10 (fun ⟨a0, a1⟩ => r22 a0 a1) qu5 false
theorem TP22 (c0 c1 : D) : T22.sp.pre [.c c0, .c c1] = (eqvArgs (qt10 c0 c1) (qp10 qw10 c0 c1) ∧ (qp10 r22 c0 c1).isSome = true) := (rfl)
theorem TR22 (c0 c1 : D) : T22.sp.res [.c c0, .c c1] = qu5 ((qp10 r22 c0 c1).getD default) := (rfl)
theorem TA22 : T22.sp.alias = false := (rfl)
def tb22 : Fns := lk [(29, T29.sp)]
theorem tb22_ok : FnsOk Try.prog tb22 := .cons f29 (FnsOk.nil)
theorem tb22_29 : tb22 29 = some T29.sp := rfl
attribute [go_sem] TP22 TR22 TA22
section
attribute [local go_sem] T22 tb22_29 Try.results22
theorem v22 : Valid Try.prog 22 T22.sp := by
 refine valid_t (fn := Try.f22) (n := 20) ty_ok tb22_ok Try.func22 rfl Try.ntmps22 ?_
 rintro ⟨a0, a1⟩ hx
 obtain ⟨r, hr⟩ := oE (show (r22 a0 a1).isSome = true from hx)
 have hres : T22.res (a0, a1) = qu5 r := by simp only [T22, mkT, hr, oG]
 refine ⟨nL rfl, fun stop S => ?_⟩
 rw [hres] at S
 unfold r22 at hr
 refine S.gx [] ?_
 obtain ⟨v1, hv1, hr⟩ := of_bind0 hr
 try simp only [hv1, oG, oI, true_and, and_assoc]
 repeat refine gA ?_
 refine ⟨?_, ?_⟩ <;> intro hc
 ·have hr := ifP hr hc
  obtain ⟨hg2, hr⟩ := of_guard0 hr
  obtain ⟨hg3, hr⟩ := of_guard0 hr
  repeat refine gA ?_
  cases hr
  exact lf
 ·have hr := ifN hr hc
  obtain ⟨hg4, hr⟩ := of_guard0 hr
  obtain ⟨hg5, hr⟩ := of_guard0 hr
  repeat refine gA ?_
  cases hr
  exact lf
theorem f22 : FnFact Try.prog 22 T22.sp := ⟨⟨Try.f22, Try.func22, by decide, rfl⟩, v22⟩
end

/- martensite/martensitetop.inspectShown -/
def r4 : Option (Bool) :=
  (r21).bind fun v1 =>
   (r20 v1 550).bind fun v2 =>
    (r8 10 2 0 3).bind fun v3 =>
     if (v2.2.2.2.2 == 0) = true → (r22 225 2).isSome = true then
      if (v2.2.2.2.2 == 0) = true → (r22 235 2).isSome = true then
       some ((((v2.2.2.2.2 == 0) && ((v2.1 == ((r22 225 2).getD default).1) && ((v2.2.1 == ((r22 225 2).getD default).2) && ((v2.2.2.1 == ((r22 235 2).getD default).1) && (v2.2.2.2.1 == ((r22 235 2).getD default).2))))) && (v3.2.2 == 0)) && ((v3.1 == 7) && (v3.2.1 == 15)))
       else none
      else none
def T4 : TSpec qA0 := mkT qE0 qd0 (fun _ => r4) qu2 false
theorem TP4 : T4.sp.pre [] = (eqvArgs (qt0 ) (qp0 qw0 ) ∧ (qp0 r4).isSome = true) := (rfl)
theorem TR4 : T4.sp.res [] = qu2 ((qp0 r4).getD default) := (rfl)
theorem TA4 : T4.sp.alias = false := (rfl)
def tb4 : Fns := lk [(8, T8.sp), (20, T20.sp), (21, T21.sp), (22, T22.sp)]
theorem tb4_ok : FnsOk Try.prog tb4 := .cons f8 (.cons f20 (.cons f21 (.cons f22 (FnsOk.nil))))
theorem tb4_8 : tb4 8 = some T8.sp := rfl
theorem tb4_20 : tb4 20 = some T20.sp := rfl
theorem tb4_21 : tb4 21 = some T21.sp := rfl
theorem tb4_22 : tb4 22 = some T22.sp := rfl
attribute [go_sem] TP4 TR4 TA4
section
attribute [local go_sem] T4 tb4_8 tb4_20 tb4_21 tb4_22 Try.results4
theorem v4 : Valid Try.prog 4 T4.sp := by
 refine valid_t (fn := Try.f4) (n := 33) ty_ok tb4_ok Try.func4 rfl Try.ntmps4 ?_
 intro _ hx
 obtain ⟨r, hr⟩ := oE (show (r4).isSome = true from hx)
 have hres : T4.res () = qu2 r := by simp only [T4, mkT, hr, oG]
 refine ⟨nL rfl, fun stop S => ?_⟩
 rw [hres] at S
 unfold r4 at hr
 refine S.gx [] ?_
 obtain ⟨v1, hv1, hr⟩ := of_bind0 hr
 obtain ⟨v2, hv2, hr⟩ := of_bind0 hr
 obtain ⟨v3, hv3, hr⟩ := of_bind0 hr
 obtain ⟨hg4, hr⟩ := of_guard0 hr
 obtain ⟨hg5, hr⟩ := of_guard0 hr
 try simp only [hv1, hv2, hv3, Option.getD_some, Option.isSome_some, true_and, and_assoc]
 repeat (first | refine gG hg4 ?_ | refine gG hg5 ?_ | refine gA ?_ | refine gB ?_)
 cases hr
 exact lf
theorem f4 : FnFact Try.prog 4 T4.sp := ⟨⟨Try.f4, Try.func4, by decide, rfl⟩, v4⟩
end

/- martensite/martensitebase.Within -/
def r23 (a0 : Int) (a1 : Int) (a2 : Int) : Option (Bool) :=
  some ((decide (a1 ≤ a0)) && (decide (a0 ≤ a2)))
def T23 : TSpec qA3 := mkT qE3 qd3 (fun ⟨a0, a1, a2⟩ => r23 a0 a1 a2) qu2 false
theorem TP23 (c0 c1 c2 : D) : T23.sp.pre [.c c0, .c c1, .c c2] = (eqvArgs (qt3 c0 c1 c2) (qp3 qw3 c0 c1 c2) ∧ (qp3 r23 c0 c1 c2).isSome = true) := (rfl)
theorem TR23 (c0 c1 c2 : D) : T23.sp.res [.c c0, .c c1, .c c2] = qu2 ((qp3 r23 c0 c1 c2).getD default) := (rfl)
theorem TA23 : T23.sp.alias = false := (rfl)
def tb23 : Fns := lk []
theorem tb23_ok : FnsOk Try.prog tb23 := FnsOk.nil
attribute [go_sem] TP23 TR23 TA23
section
attribute [local go_sem] T23 Try.results23
theorem v23 : Valid Try.prog 23 T23.sp := by
 refine valid_t (fn := Try.f23) (n := 15) ty_ok tb23_ok Try.func23 rfl Try.ntmps23 ?_
 rintro ⟨a0, a1, a2⟩ hx
 obtain ⟨r, hr⟩ := oE (show (r23 a0 a1 a2).isSome = true from hx)
 have hres : T23.res (a0, a1, a2) = qu2 r := by simp only [T23, mkT, hr, oG]
 refine ⟨nL rfl, fun stop S => ?_⟩
 rw [hres] at S
 unfold r23 at hr
 refine S.gx [] ?_
 repeat (first | refine gA ?_ | refine gB ?_)
 cases hr
 exact lf
theorem f23 : FnFact Try.prog 23 T23.sp := ⟨⟨Try.f23, Try.func23, by decide, rfl⟩, v23⟩
end

/- martensite/martensiteref08.PlanErr -/
def r5 (x1 : Int) (x0 : Int) (x2 : Int) : Option (Int) :=
  (r23 x1 1 30).bind fun v1 =>
   if (!(!v1)) = true → (r23 x0 1 x1).isSome = true then
    if (!((!v1) || (!((r23 x0 1 x1).getD default)))) = true → (r23 x2 0 x0).isSome = true then
     if (((!v1) || (!((r23 x0 1 x1).getD default))) || (!((r23 x2 0 x0).getD default))) = true then
      some 2
      else some 0
     else none
    else none
def T5 : TSpec qA14 := mkT qE14 qd14 (fun ⟨x1, x0, x2⟩ => r5 x1 x0 x2) qu1 false
theorem TP5 (c0 c1 c2 : D) : T5.sp.pre [.agg [c0, c1, c2]] = (eqvArgs (qt14 c0 c1 c2) (qp14 qw14 c0 c1 c2) ∧ (qp14 r5 c0 c1 c2).isSome = true) := (rfl)
theorem TR5 (c0 c1 c2 : D) : T5.sp.res [.agg [c0, c1, c2]] = qu1 ((qp14 r5 c0 c1 c2).getD default) := (rfl)
theorem TA5 : T5.sp.alias = false := (rfl)
def tb5 : Fns := lk [(23, T23.sp)]
theorem tb5_ok : FnsOk Try.prog tb5 := .cons f23 (FnsOk.nil)
theorem tb5_23 : tb5 23 = some T23.sp := rfl
attribute [go_sem] TP5 TR5 TA5
section
attribute [local go_sem] T5 tb5_23 Try.results5
theorem v5 : Valid Try.prog 5 T5.sp := by
 refine valid_t (fn := Try.f5) (n := 23) ty_ok tb5_ok Try.func5 rfl Try.ntmps5 ?_
 rintro ⟨x1, x0, x2⟩ hx
 obtain ⟨r, hr⟩ := oE (show (r5 x1 x0 x2).isSome = true from hx)
 have hres : T5.res (x1, x0, x2) = qu1 r := by simp only [T5, mkT, hr, oG]
 refine ⟨nL rfl, fun stop S => ?_⟩
 rw [hres] at S
 unfold r5 at hr
 refine S.gx [] ?_
 obtain ⟨v1, hv1, hr⟩ := of_bind0 hr
 obtain ⟨hg2, hr⟩ := of_guard0 hr
 obtain ⟨hg3, hr⟩ := of_guard0 hr
 try simp only [hv1, oG, oI, true_and, and_assoc]
 repeat (first | refine gG hg2 ?_ | refine gG hg3 ?_ | refine gA ?_ | refine gB ?_)
 refine ⟨?_, ?_⟩ <;> intro hc
 ·have hr := ifP hr hc
  repeat refine gA ?_
  cases hr
  exact lf
 ·have hr := ifN hr hc
  repeat refine gA ?_
  cases hr
  exact lf
theorem f5 : FnFact Try.prog 5 T5.sp := ⟨⟨Try.f5, Try.func5, by decide, rfl⟩, v5⟩
end

/- martensite/martensiteref08.BadErr -/
def r6 (a0 : Int) (a1 : Int) : Option (Int) :=
  (r23 a0 0 a1).bind fun v1 =>
   if (!v1) = true then
    some 2
    else some 0
def T6 : TSpec qA10 := mkT qE10 qd10 (fun ⟨a0, a1⟩ => r6 a0 a1) qu1 false
theorem TP6 (c0 c1 : D) : T6.sp.pre [.c c0, .c c1] = (eqvArgs (qt10 c0 c1) (qp10 qw10 c0 c1) ∧ (qp10 r6 c0 c1).isSome = true) := (rfl)
theorem TR6 (c0 c1 : D) : T6.sp.res [.c c0, .c c1] = qu1 ((qp10 r6 c0 c1).getD default) := (rfl)
theorem TA6 : T6.sp.alias = false := (rfl)
def tb6 : Fns := lk [(23, T23.sp)]
theorem tb6_ok : FnsOk Try.prog tb6 := .cons f23 (FnsOk.nil)
theorem tb6_23 : tb6 23 = some T23.sp := rfl
attribute [go_sem] TP6 TR6 TA6
section
attribute [local go_sem] T6 tb6_23 Try.results6
theorem v6 : Valid Try.prog 6 T6.sp := by
 refine valid_t (fn := Try.f6) (n := 9) ty_ok tb6_ok Try.func6 rfl Try.ntmps6 ?_
 rintro ⟨a0, a1⟩ hx
 obtain ⟨r, hr⟩ := oE (show (r6 a0 a1).isSome = true from hx)
 have hres : T6.res (a0, a1) = qu1 r := by simp only [T6, mkT, hr, oG]
 refine ⟨nL rfl, fun stop S => ?_⟩
 rw [hres] at S
 unfold r6 at hr
 refine S.gx [] ?_
 obtain ⟨v1, hv1, hr⟩ := of_bind0 hr
 try simp only [hv1, oG, oI, true_and, and_assoc]
 repeat refine gA ?_
 refine ⟨?_, ?_⟩ <;> intro hc
 ·have hr := ifP hr hc
  repeat refine gA ?_
  cases hr
  exact lf
 ·have hr := ifN hr hc
  repeat refine gA ?_
  cases hr
  exact lf
theorem f6 : FnFact Try.prog 6 T6.sp := ⟨⟨Try.f6, Try.func6, by decide, rfl⟩, v6⟩
end
end Go.Proofs.Ytfmjhllkheapeaa

/- Contracts of functions, written by wip/dec. -/
import Derived.Test.YthldpejmofhaoaaGreatDoorF00
set_option linter.unusedVariables false
set_option linter.unusedSimpArgs false
set_option maxHeartbeats 4000000
set_option maxRecDepth 20000
namespace Go.Proofs.YthldpejmofhaoaaGreatDoor
open Go.Abs
section
variable {β : Type} [Inhabited β] (u : β → List RV) (al : Bool)
abbrev qF30 (β : Type) := L_II → Int → Int → β
def qw30 (a0 : L_II) (a1 a2 : Int) : List Arg := [.c (encF 2 d_II a0), .c (.int .i64 a1), .c (.int .i64 a2)]
def qd30 (a : List Arg) := (decF g_II (aCell a 0 0), dInt (aCell a 1 0), dInt (aCell a 2 0))
def qp30 {β : Type} (f : qF30 β) (c0 c1 c2 : D) := f (decF g_II c0) (dInt c1) (dInt c2)
abbrev qt30 (c0 c1 c2 : D) : List Arg := [.c c0, .c c1, .c c2]
def qT30 (r : qF30 (Option β)) := mkT (u3 qw30) qd30 (u3 r) u al
theorem qP30 (r : qF30 (Option β)) (c0 c1 c2 : D) : PT (qT30 u al r).sp u (qt30 c0 c1 c2) (qp30 qw30 c0 c1 c2) (qp30 r c0 c1 c2) := ⟨rfl, rfl⟩
theorem qa30 (r : qF30 (Option β)) : (qT30 u al r).sp.alias = al := rfl
attribute [go_sem] qw30 qp30 qt30 qP30 qa30
abbrev qF31 (β : Type) := Int → Int → L_II → L_LIIE → Int → β
def qw31 (a0 a1 : Int) (a2 : L_II) (a3 : L_LIIE) (a4 : Int) : List Arg := [.agg [.int .i64 a0, .int .i64 a1, encF 2 d_II a2, encF 1 d_LIIE a3], .c (.int .i64 a4)]
def qd31 (a : List Arg) := (dInt (aCell a 0 0), dInt (aCell a 0 1), decF g_II (aCell a 0 2), decF g_LIIE (aCell a 0 3), dInt (aCell a 1 0))
def qp31 {β : Type} (f : qF31 β) (c0 c1 c2 c3 c4 : D) := f (dInt c0) (dInt c1) (decF g_II c2) (decF g_LIIE c3) (dInt c4)
abbrev qt31 (c0 c1 c2 c3 c4 : D) : List Arg := [.agg [c0, c1, c2, c3], .c c4]
def qT31 (r : qF31 (Option β)) := mkT (u5 qw31) qd31 (u5 r) u al
theorem qP31 (r : qF31 (Option β)) (c0 c1 c2 c3 c4 : D) : PT (qT31 u al r).sp u (qt31 c0 c1 c2 c3 c4) (qp31 qw31 c0 c1 c2 c3 c4) (qp31 r c0 c1 c2 c3 c4) := ⟨rfl, rfl⟩
theorem qa31 (r : qF31 (Option β)) : (qT31 u al r).sp.alias = al := rfl
attribute [go_sem] qw31 qp31 qt31 qP31 qa31
abbrev qF32 (β : Type) := Int → Int → L_II → L_LIIE → L_I → Int → β
def qw32 (a0 a1 : Int) (a2 : L_II) (a3 : L_LIIE) (a4 : L_I) (a5 : Int) : List Arg := [.agg [.int .i64 a0, .int .i64 a1, encF 2 d_II a2, encF 1 d_LIIE a3], .agg [encF 1 d_I a4, .int .i64 a5]]
def qd32 (a : List Arg) := (dInt (aCell a 0 0), dInt (aCell a 0 1), decF g_II (aCell a 0 2), decF g_LIIE (aCell a 0 3), decF g_I (aCell a 1 0), dInt (aCell a 1 1))
def qp32 {β : Type} (f : qF32 β) (c0 c1 c2 c3 c4 c5 : D) := f (dInt c0) (dInt c1) (decF g_II c2) (decF g_LIIE c3) (decF g_I c4) (dInt c5)
abbrev qt32 (c0 c1 c2 c3 c4 c5 : D) : List Arg := [.agg [c0, c1, c2, c3], .agg [c4, c5]]
def qT32 (r : qF32 (Option β)) := mkT (u6 qw32) qd32 (u6 r) u al
theorem qP32 (r : qF32 (Option β)) (c0 c1 c2 c3 c4 c5 : D) : PT (qT32 u al r).sp u (qt32 c0 c1 c2 c3 c4 c5) (qp32 qw32 c0 c1 c2 c3 c4 c5) (qp32 r c0 c1 c2 c3 c4 c5) := ⟨rfl, rfl⟩
theorem qa32 (r : qF32 (Option β)) : (qT32 u al r).sp.alias = al := rfl
attribute [go_sem] qw32 qp32 qt32 qP32 qa32
abbrev qF33 (β : Type) := Int → Int → L_II → L_LIIE → L_I → Int → Int → Int → Int → β
def qw33 (a0 a1 : Int) (a2 : L_II) (a3 : L_LIIE) (a4 : L_I) (a5 a6 a7 a8 : Int) : List Arg := [.agg [.int .i64 a0, .int .i64 a1, encF 2 d_II a2, encF 1 d_LIIE a3], .agg [encF 1 d_I a4, .int .i64 a5, .int .i64 a6, .int .i64 a7, .int .i64 a8]]
def qd33 (a : List Arg) := (dInt (aCell a 0 0), dInt (aCell a 0 1), decF g_II (aCell a 0 2), decF g_LIIE (aCell a 0 3), decF g_I (aCell a 1 0), dInt (aCell a 1 1), dInt (aCell a 1 2), dInt (aCell a 1 3), dInt (aCell a 1 4))
def qp33 {β : Type} (f : qF33 β) (c0 c1 c2 c3 c4 c5 c6 c7 c8 : D) := f (dInt c0) (dInt c1) (decF g_II c2) (decF g_LIIE c3) (decF g_I c4) (dInt c5) (dInt c6) (dInt c7) (dInt c8)
abbrev qt33 (c0 c1 c2 c3 c4 c5 c6 c7 c8 : D) : List Arg := [.agg [c0, c1, c2, c3], .agg [c4, c5, c6, c7, c8]]
def qT33 (r : qF33 (Option β)) := mkT (u9 qw33) qd33 (u9 r) u al
theorem qP33 (r : qF33 (Option β)) (c0 c1 c2 c3 c4 c5 c6 c7 c8 : D) : PT (qT33 u al r).sp u (qt33 c0 c1 c2 c3 c4 c5 c6 c7 c8) (qp33 qw33 c0 c1 c2 c3 c4 c5 c6 c7 c8) (qp33 r c0 c1 c2 c3 c4 c5 c6 c7 c8) := ⟨rfl, rfl⟩
theorem qa33 (r : qF33 (Option β)) : (qT33 u al r).sp.alias = al := rfl
attribute [go_sem] qw33 qp33 qt33 qP33 qa33
end
/- martensite/martensitelaw03.Few -/
def b7_1 (x0 : L_LIIE) : Bd Int Bool := fun s1 =>
  if (decide (s1 < (x0.length : Int))) = true then
   if 0 ≤ s1 ∧ s1 < (x0.length : Int) then
    if (decide (((x0.getD s1.toNat default).length : Int) > 8)) = true then
     .out (some false)
     else .next (IntKind.i64.wrap (s1 + 1))
    else .out none
   else .out (some true)
def r7 (x2 x3 : Int) (x1 : L_II) (x0 : L_LIIE) : Option (Bool) :=
  if ((decide ((x1.length : Int) > 10)) || (decide ((x0.length : Int) > 6))) = true then
   some false
   else iterC (b7_1 x0) 1000000000 0
def T7 := qT12 qu1 false r7
attribute [go_sem] T7
def tb7 : Fns := lk []
theorem tb7_ok : FnsOk Tryz.prog tb7 := FnsOk.nil
section
attribute [local go_sem] Tryz.results7
theorem f7 : FnFact Tryz.prog 7 T7.sp := by
  refine valid_m ty_ok tb7_ok Tryz.func7 rfl Tryz.ntmps7 fun ⟨x2, x3, x1, x0⟩ r hr => ⟨nL rfl, fun stop S => ?_⟩
  replace hr : r7 x2 x3 x1 x0 = some r := hr
  unfold r7 at hr
  refine S.gx [] ?_
  repeat (first | refine gA ?_ | refine gB ?_)
  refine iW hr (fun hc hr => D0 hr) fun hc hr => ?_
  refine gr ?_
  refine S.sees [1, 3] [(1, 1)] [] ?_ (Stop.iter S (fun s1 => ⟨[(1, .c (.ref 1 0)), (3, .c (.d (.int .i64 s1)))], [(1, [.d (.int .i64 x2), .d (.int .i64 x3), .d (encF 2 d_II x1), .d (encF 1 d_LIIE x0)])], []⟩) (b7_1 x0) (fun q => q = r) hr rfl ?_)
  · exact lf
  · intro s1 hr
    unfold b7_1 at hr
    refine S.gx [] ?_
    exact D1 (S.ss [1, 3] [(1, 1)] []) hr
end

/- martensite/martensitebase.Within -/
def r11 (a0 a1 a2 : Int) : Option (Bool) :=
  some ((decide (a1 ≤ a0)) && (decide (a0 ≤ a2)))
def T11 := qT1 qu1 false r11
attribute [go_sem] T11
def tb11 : Fns := lk []
theorem tb11_ok : FnsOk Tryz.prog tb11 := FnsOk.nil
section
attribute [local go_sem] Tryz.results11
theorem f11 : FnFact Tryz.prog 11 T11.sp := by
  refine valid_m ty_ok tb11_ok Tryz.func11 rfl Tryz.ntmps11 fun ⟨a0, a1, a2⟩ r hr => ⟨nL rfl, fun stop S => ?_⟩
  replace hr : r11 a0 a1 a2 = some r := hr
  unfold r11 at hr
  refine S.gx [] ?_
  repeat (first | refine gA ?_ | refine gB ?_)
  exact D0 hr
end

/- martensite/martensiteref03.IsKelvin -/
def r154 (a0 : Int) : Option (Bool) :=
  (r11 a0 200 3000).bind fun v1 =>
   some v1
def T154 := qT4 qu1 false r154
attribute [go_sem] T154
def tb154 : Fns := lk [(11, T11.sp)]
theorem tb154_ok : FnsOk Tryz.prog tb154 := .cons f11 .nil
theorem tk154 : tb154 11 = some T11.sp := rfl
section
attribute [local go_sem] tk154 Tryz.results154
theorem f154 : FnFact Tryz.prog 154 T154.sp := by
  refine valid_m ty_ok tb154_ok Tryz.func154 rfl Tryz.ntmps154 fun a0 r hr => ⟨nL rfl, fun stop S => ?_⟩
  replace hr : r154 a0 = some r := hr
  unfold r154 at hr
  refine S.gx [] ?_
  exact D0 hr
end

/- martensite/martensiteref03.lawErr -/
def b219_1 (a0 : L_II) : Bd Int Int := fun s1 =>
  if (decide (s1 < (a0.length : Int))) = true then
   if 0 ≤ s1 ∧ s1 < (a0.length : Int) then
    bindC (r154 ((a0.getD s1.toNat default).1)) fun v1 =>
     if (!(!v1)) = true → 0 ≤ s1 ∧ s1 < (a0.length : Int) then
      if (!(!v1)) = true → (r11 ((a0.getD s1.toNat default).2) 0 1000).isSome = true then
       if ((!v1) || (!((r11 ((a0.getD s1.toNat default).2) 0 1000).getD default))) = true then
        .out (some 2)
        else if (decide (s1 > 0)) = true then
         if 0 ≤ s1 ∧ s1 < (a0.length : Int) then
          if 0 ≤ IntKind.i64.wrap (s1 - 1) ∧ IntKind.i64.wrap (s1 - 1) < (a0.length : Int) then
           if 0 ≤ s1 ∧ s1 < (a0.length : Int) then
            if 0 ≤ IntKind.i64.wrap (s1 - 1) ∧ IntKind.i64.wrap (s1 - 1) < (a0.length : Int) then
             if ((decide ((IntKind.i64.wrap (((a0.getD s1.toNat default).1) - ((a0.getD (IntKind.i64.wrap (s1 - 1)).toNat default).1))) ≤ 0)) || (decide ((IntKind.i64.wrap (((a0.getD s1.toNat default).2) - ((a0.getD (IntKind.i64.wrap (s1 - 1)).toNat default).2))) < 0))) = true then
              .out (some 9)
              else if (decide ((IntKind.i64.wrap (2 * (IntKind.i64.wrap (((a0.getD s1.toNat default).2) - ((a0.getD (IntKind.i64.wrap (s1 - 1)).toNat default).2))))) > (IntKind.i64.wrap (((a0.getD s1.toNat default).1) - ((a0.getD (IntKind.i64.wrap (s1 - 1)).toNat default).1))))) = true then
               .out (some 22)
               else .next (IntKind.i64.wrap (s1 + 1))
             else .out none
            else .out none
           else .out none
          else .out none
         else .next (IntKind.i64.wrap (s1 + 1))
       else .out none
      else .out none
    else .out none
   else .out (some 0)
def r219 (a0 : L_II) : Option (Int) :=
  if (decide ((a0.length : Int) > 6)) = true then
   some 8
   else iterC (b219_1 a0) 1000000000 0
def T219 := qT5 qu2 false r219
attribute [go_sem] T219
def tb219 : Fns := lk [(11, T11.sp), (154, T154.sp)]
theorem tb219_ok : FnsOk Tryz.prog tb219 := .cons f11 (.cons f154 .nil)
theorem tk219 : tb219 11 = some T11.sp ∧ tb219 154 = some T154.sp := ⟨rfl, rfl⟩
section
attribute [local go_sem] tk219 Tryz.results219
theorem f219 : FnFact Tryz.prog 219 T219.sp := by
  refine valid_m ty_ok tb219_ok Tryz.func219 rfl Tryz.ntmps219 fun a0 r hr => ⟨nL rfl, fun stop S => ?_⟩
  replace hr : r219 a0 = some r := hr
  unfold r219 at hr
  refine S.gx [10] ?_
  refine gr ?_
  refine iW hr (fun hc hr => D0 hr) fun hc hr => ?_
  refine gr ?_
  refine S.sees [0, 3] [] [] ?_ (Stop.iter S (fun s1 => ⟨[(0, .c (.d (encF 2 d_II a0))), (3, .c (.d (.int .i64 s1)))], [], []⟩) (b219_1 a0) (fun q => q = r) hr rfl ?_)
  · exact lf
  · intro s1 hr
    unfold b219_1 at hr
    refine S.gx [10] ?_
    refine gr ?_
    refine iW1 hr (fun hc hr => ?_) fun hc hr => D0 hr
    obtain ⟨hg6, hr⟩ := of_guard1 hr
    obtain ⟨v1, hv1, hr⟩ := of_bind1 hr
    obtain ⟨hg7, hr⟩ := of_guard1 hr
    obtain ⟨hg8, hr⟩ := of_guard1 hr
    try simp only [hv1, oG, oI, true_and, and_assoc]
    repeat (first | refine gG hg7 ?_ | refine gG hg8 ?_ | refine gA ?_ | refine gB ?_)
    refine iW1 hr (fun hc hr => D0 hr) fun hc hr => ?_
    refine gr ?_
    refine iW1 hr (fun hc hr => ?_) fun hc hr => D1 (S.ss [0, 3] [] []) hr
    obtain ⟨hg2, hr⟩ := of_guard1 hr
    obtain ⟨hg3, hr⟩ := of_guard1 hr
    obtain ⟨hg4, hr⟩ := of_guard1 hr
    obtain ⟨hg5, hr⟩ := of_guard1 hr
    refine gr ?_
    refine S.prune [0, 3, 4, 5] ?_
    refine S.gx [] ?_
    repeat (first | refine gA ?_ | refine gB ?_)
    exact D1 (S.ss [0, 3] [] []) hr
end

/- martensite/martensiteref03.lossOf -/
def b261_1 (a0 : L_II) (a1 a2 : Int) : Bd Int (Int × Int) := fun s1 =>
  if (decide (s1 < (a0.length : Int))) = true then
   if 0 ≤ s1 ∧ s1 < (a0.length : Int) then
    if (decide (a1 ≤ (IntKind.i64.wrap (((a0.getD s1.toNat default).1) * a2)))) = true then
     if (s1 == 0) = true then
      if 0 ≤ 0 ∧ 0 < (a0.length : Int) then
       .out (some ((a0.getD 0 default).2, 1))
       else .out none
      else if 0 ≤ IntKind.i64.wrap (s1 - 1) ∧ IntKind.i64.wrap (s1 - 1) < (a0.length : Int) then
       if 0 ≤ s1 ∧ s1 < (a0.length : Int) then
        .out (some (IntKind.i64.wrap ((IntKind.i64.wrap (((a0.getD (IntKind.i64.wrap (s1 - 1)).toNat default).2) * (IntKind.i64.wrap ((IntKind.i64.wrap (((a0.getD s1.toNat default).1) - ((a0.getD (IntKind.i64.wrap (s1 - 1)).toNat default).1))) * a2)))) + (IntKind.i64.wrap ((IntKind.i64.wrap (((a0.getD s1.toNat default).2) - ((a0.getD (IntKind.i64.wrap (s1 - 1)).toNat default).2))) * (IntKind.i64.wrap (a1 - (IntKind.i64.wrap (((a0.getD (IntKind.i64.wrap (s1 - 1)).toNat default).1) * a2))))))), IntKind.i64.wrap ((IntKind.i64.wrap (((a0.getD s1.toNat default).1) - ((a0.getD (IntKind.i64.wrap (s1 - 1)).toNat default).1))) * a2)))
        else .out none
       else .out none
     else .next (IntKind.i64.wrap (s1 + 1))
    else .out none
   else .out (if 0 ≤ IntKind.i64.wrap ((a0.length : Int) - 1) ∧ IntKind.i64.wrap ((a0.length : Int) - 1) < (a0.length : Int) then
    some ((a0.getD (IntKind.i64.wrap ((a0.length : Int) - 1)).toNat default).2, 1)
    else none)
def r261 (a0 : L_II) (a1 a2 : Int) : Option (Int × Int) :=
  if ((a0.length : Int) == 0) = true then
   some (0, 1)
   else iterC (b261_1 a0 a1 a2) 1000000000 0
def T261 := qT30 qu3 false r261
attribute [go_sem] T261
def tb261 : Fns := lk []
theorem tb261_ok : FnsOk Tryz.prog tb261 := FnsOk.nil
section
attribute [local go_sem] Tryz.results261
theorem f261 : FnFact Tryz.prog 261 T261.sp := by
  refine valid_m ty_ok tb261_ok Tryz.func261 rfl Tryz.ntmps261 fun ⟨a0, a1, a2⟩ r hr => ⟨nL rfl, fun stop S => ?_⟩
  replace hr : r261 a0 a1 a2 = some r := hr
  unfold r261 at hr
  refine S.gx [11] ?_
  refine gr ?_
  refine iW hr (fun hc hr => D0 hr) fun hc hr => ?_
  refine gr ?_
  refine S.sees [0, 1, 2, 8] [] [] ?_ (Stop.iter S (fun s1 => ⟨[(0, .c (.d (encF 2 d_II a0))), (1, .c (.d (.int .i64 a1))), (2, .c (.d (.int .i64 a2))), (8, .c (.d (.int .i64 s1)))], [], []⟩) (b261_1 a0 a1 a2) (fun q => q = r) hr rfl ?_)
  · exact lf
  · intro s1 hr
    unfold b261_1 at hr
    refine S.gx [11] ?_
    refine gr ?_
    refine iW1 hr (fun hc hr => ?_) fun hc hr => D0 hr
    obtain ⟨hg4, hr⟩ := of_guard1 hr
    refine gr ?_
    refine iW1 hr (fun hc hr => ?_) fun hc hr => D1 (S.ss [0, 1, 2, 8] [] []) hr
    refine gr ?_
    refine iW1 hr (fun hc hr => D0 hr) fun hc hr => ?_
    obtain ⟨hg2, hr⟩ := of_guard1 hr
    obtain ⟨hg3, hr⟩ := of_guard1 hr
    refine gr ?_
    refine S.prune [1, 2, 9, 10, 11] ?_
    refine S.gx [] ?_
    exact D0 hr
end

/- martensite/martensiteref03.isBelow -/
def b220_1 (a0 a1 : L_II) : Bd Int Bool := fun s1 =>
  if (decide (s1 < ((a0 ++ a1).length : Int))) = true then
   if 0 ≤ s1 ∧ s1 < ((a0 ++ a1).length : Int) then
    bindC (r261 a0 (((a0 ++ a1).getD s1.toNat default).1) 1) fun v1 =>
     if 0 ≤ s1 ∧ s1 < ((a0 ++ a1).length : Int) then
      bindC (r261 a1 (((a0 ++ a1).getD s1.toNat default).1) 1) fun v2 =>
       if (decide ((IntKind.i64.wrap (v1.1 * v2.2)) < (IntKind.i64.wrap (v2.1 * v1.2)))) = true then
        .out (some true)
        else .next (IntKind.i64.wrap (s1 + 1))
      else .out none
    else .out none
   else .out (some false)
def r220 (a0 a1 : L_II) : Option (Bool) :=
  if (0 + a0.length) * 16 ≤ 140737488355328 ∧ 0 + a0.length ≤ 9223372036854775807 then
   if (a0.length + a1.length) * 16 ≤ 140737488355328 ∧ a0.length + a1.length ≤ 9223372036854775807 then
    iterC (b220_1 a0 a1) 1000000000 0
    else none
   else none
def T220 := qT11 qu1 false r220
attribute [go_sem] T220
def tb220 : Fns := lk [(261, T261.sp)]
theorem tb220_ok : FnsOk Tryz.prog tb220 := .cons f261 .nil
theorem tk220 : tb220 261 = some T261.sp := rfl
section
attribute [local go_sem] tk220 Tryz.results220
theorem f220 : FnFact Tryz.prog 220 T220.sp := by
  refine valid_m ty_ok tb220_ok Tryz.func220 rfl Tryz.ntmps220 fun ⟨a0, a1⟩ r hr => ⟨nL rfl, fun stop S => ?_⟩
  replace hr : r220 a0 a1 = some r := hr
  unfold r220 at hr
  refine S.gx [4, 8] ?_
  obtain ⟨hg5, hr⟩ := of_guard0 hr
  obtain ⟨hg6, hr⟩ := of_guard0 hr
  refine gr ?_
  refine S.sees [0, 1, 5, 6] [] [(15, 15)] ?_ (Stop.iter S (fun s1 => ⟨[(0, .c (.d (encF 2 d_II a0))), (1, .c (.d (encF 2 d_II a1))), (5, .c (.own 15)), (6, .c (.d (.int .i64 s1)))], [], [(15, .owned (encF 2 d_II (a0 ++ a1)))]⟩) (b220_1 a0 a1) (fun q => q = r) hr rfl ?_)
  · exact lf
  · intro s1 hr
    unfold b220_1 at hr
    refine S.gx [4, 8] ?_
    refine gr ?_
    refine iW1 hr (fun hc hr => ?_) fun hc hr => D0 hr
    obtain ⟨hg3, hr⟩ := of_guard1 hr
    obtain ⟨v1, hv1, hr⟩ := of_bind1 hr
    obtain ⟨hg4, hr⟩ := of_guard1 hr
    obtain ⟨v2, hv2, hr⟩ := of_bind1 hr
    refine gb hv1 ?_
    refine gb hv2 ?_
    refine iW1 hr (fun hc hr => ?_) fun hc hr => ?_
    · refine gr ?_
      refine S.prune [] ?_
      refine S.gx [4] ?_
      exact D0 hr
    · refine gr ?_
      refine S.prune [0, 1, 5, 6] ?_
      refine S.gx [8] ?_
      exact D1 (S.ss [0, 1, 5, 6] [] [(15, 15)]) hr
end

/- martensite/martensiteref03.CheckSetup -/
def b153_2 (x1 : L_LIIE) : Bd Int (Int × Int) := fun s2 =>
  if (decide (s2 < (x1.length : Int))) = true then
   if 0 ≤ s2 ∧ s2 < (x1.length : Int) then
    bindC (r219 (x1.getD s2.toNat default)) fun v10 =>
     if (v10 != 0) = true then
      .out (some (s2, v10))
      else if (decide (s2 > 0)) = true → 0 ≤ s2 ∧ s2 < (x1.length : Int) then
       if (decide (s2 > 0)) = true → 0 ≤ IntKind.i64.wrap (s2 - 1) ∧ IntKind.i64.wrap (s2 - 1) < (x1.length : Int) then
        if (decide (s2 > 0)) = true → (r220 (x1.getD s2.toNat default) (x1.getD (IntKind.i64.wrap (s2 - 1)).toNat default)).isSome = true then
         if ((decide (s2 > 0)) && ((r220 (x1.getD s2.toNat default) (x1.getD (IntKind.i64.wrap (s2 - 1)).toNat default)).getD default)) = true then
          .out (some (s2, 13))
          else .next (IntKind.i64.wrap (s2 + 1))
         else .out none
        else .out none
       else .out none
    else .out none
   else .out (some (0, 0))
def b153_1 (x0 : L_II) (x1 : L_LIIE) : Bd Int (Int × Int) := fun s1 =>
  if (decide (s1 < (x0.length : Int))) = true then
   if 0 ≤ s1 ∧ s1 < (x0.length : Int) then
    bindC (r11 ((x0.getD s1.toNat default).1) 0 1000000) fun v2 =>
     if (!(!v2)) = true → 0 ≤ s1 ∧ s1 < (x0.length : Int) then
      if (!(!v2)) = true → (r154 ((x0.getD s1.toNat default).2)).isSome = true then
       if ((!v2) || (!((r154 ((x0.getD s1.toNat default).2)).getD default))) = true then
        .out (some (s1, 2))
        else if (decide (s1 > 0)) = true then
         if 0 ≤ s1 ∧ s1 < (x0.length : Int) then
          if 0 ≤ IntKind.i64.wrap (s1 - 1) ∧ IntKind.i64.wrap (s1 - 1) < (x0.length : Int) then
           if 0 ≤ s1 ∧ s1 < (x0.length : Int) then
            if 0 ≤ IntKind.i64.wrap (s1 - 1) ∧ IntKind.i64.wrap (s1 - 1) < (x0.length : Int) then
             if ((decide ((IntKind.i64.wrap (((x0.getD s1.toNat default).1) - ((x0.getD (IntKind.i64.wrap (s1 - 1)).toNat default).1))) ≤ 0)) || (decide ((IntKind.i64.wrap (((x0.getD s1.toNat default).2) - ((x0.getD (IntKind.i64.wrap (s1 - 1)).toNat default).2))) ≤ 0))) = true then
              .out (some (s1, 9))
              else if (decide ((IntKind.i64.wrap (((x0.getD s1.toNat default).2) - ((x0.getD (IntKind.i64.wrap (s1 - 1)).toNat default).2))) > (IntKind.i64.wrap (((x0.getD s1.toNat default).1) - ((x0.getD (IntKind.i64.wrap (s1 - 1)).toNat default).1))))) = true then
               .out (some (s1, 22))
               else .next (IntKind.i64.wrap (s1 + 1))
             else .out none
            else .out none
           else .out none
          else .out none
         else .next (IntKind.i64.wrap (s1 + 1))
       else .out none
      else .out none
    else .out none
   else .out (if (decide ((x1.length : Int) > 4)) = true then
    some (0, 8)
    else iterC (b153_2 x1) 1000000000 0)
def r153 (x3 x2 : Int) (x0 : L_II) (x1 : L_LIIE) : Option (Int × Int) :=
  (r11 x3 1 12).bind fun v1 =>
   if (!(!v1)) = true → (r11 x2 0 500).isSome = true then
    if ((!v1) || (!((r11 x2 0 500).getD default))) = true then
     some (0, 2)
     else if (decide ((x0.length : Int) < 2)) = true then
      some (0, 10)
      else if (decide ((x0.length : Int) > 8)) = true then
       some (0, 8)
       else iterC (b153_1 x0 x1) 1000000000 0
    else none
def T153 := qT12 qu3 false r153
attribute [go_sem] T153
def tb153 : Fns := lk [(11, T11.sp), (154, T154.sp), (219, T219.sp), (220, T220.sp)]
theorem tb153_ok : FnsOk Tryz.prog tb153 := .cons f11 (.cons f154 (.cons f219 (.cons f220 .nil)))
theorem tk153 : tb153 11 = some T11.sp ∧ tb153 154 = some T154.sp ∧ tb153 219 = some T219.sp ∧ tb153 220 = some T220.sp := ⟨rfl, rfl, rfl, rfl⟩
section
attribute [local go_sem] tk153 Tryz.results153
theorem f153 : FnFact Tryz.prog 153 T153.sp := by
  refine valid_m ty_ok tb153_ok Tryz.func153 rfl Tryz.ntmps153 fun ⟨x3, x2, x0, x1⟩ r hr => ⟨nL rfl, fun stop S => ?_⟩
  replace hr : r153 x3 x2 x0 x1 = some r := hr
  unfold r153 at hr
  refine S.gx [14, 22, 27] ?_
  obtain ⟨v1, hv1, hr⟩ := of_bind0 hr
  obtain ⟨hg15, hr⟩ := of_guard0 hr
  try simp only [hv1, oG, oI, true_and, and_assoc]
  repeat (first | refine gG hg15 ?_ | refine gA ?_ | refine gB ?_)
  refine iW hr (fun hc hr => D0 hr) fun hc hr => ?_
  refine gr ?_
  refine iW hr (fun hc hr => D0 hr) fun hc hr => ?_
  refine gr ?_
  refine iW hr (fun hc hr => D0 hr) fun hc hr => ?_
  refine gr ?_
  refine S.sees [1, 4] [(1, 1)] [] ?_ (Stop.iter S (fun s1 => ⟨[(1, .c (.ref 1 0)), (4, .c (.d (.int .i64 s1)))], [(1, [.d (.int .i64 x3), .d (.int .i64 x2), .d (encF 2 d_II x0), .d (encF 1 d_LIIE x1)])], []⟩) (b153_1 x0 x1) (fun q => q = r) hr rfl ?_)
  · exact lf
  · intro s1 hr
    unfold b153_1 at hr
    refine S.gx [14, 22, 27] ?_
    refine gr ?_
    refine iW1 hr (fun hc hr => ?_) fun hc hr => ?_
    · obtain ⟨hg7, hr⟩ := of_guard1 hr
      obtain ⟨v2, hv2, hr⟩ := of_bind1 hr
      obtain ⟨hg8, hr⟩ := of_guard1 hr
      obtain ⟨hg9, hr⟩ := of_guard1 hr
      try simp only [hv2, oG, oI, true_and, and_assoc]
      repeat (first | refine gG hg8 ?_ | refine gG hg9 ?_ | refine gA ?_ | refine gB ?_)
      refine iW1 hr (fun hc hr => D0 hr) fun hc hr => ?_
      refine gr ?_
      refine iW1 hr (fun hc hr => ?_) fun hc hr => D1 (S.ss [1, 4] [(1, 1)] []) hr
      obtain ⟨hg3, hr⟩ := of_guard1 hr
      obtain ⟨hg4, hr⟩ := of_guard1 hr
      obtain ⟨hg5, hr⟩ := of_guard1 hr
      obtain ⟨hg6, hr⟩ := of_guard1 hr
      refine gr ?_
      refine S.prune [1, 4, 5, 6] ?_
      refine S.gx [22, 27] ?_
      repeat (first | refine gA ?_ | refine gB ?_)
      exact D1 (S.ss [1, 4] [(1, 1)] []) hr
    · refine gr ?_
      have hr := of_out0 hr
      refine gr ?_
      refine iW hr (fun hc hr => D0 hr) fun hc hr => ?_
      refine gr ?_
      refine S.sees [1, 7] [(1, 1)] [] ?_ (Stop.iter S (fun s2 => ⟨[(1, .c (.ref 1 0)), (7, .c (.d (.int .i64 s2)))], [(1, [.d (.int .i64 x3), .d (.int .i64 x2), .d (encF 2 d_II x0), .d (encF 1 d_LIIE x1)])], []⟩) (b153_2 x1) (fun q => q = r) hr rfl ?_)
      · exact lf
      · intro s2 hr
        unfold b153_2 at hr
        refine S.gx [14, 22, 27] ?_
        refine gr ?_
        refine iW1 hr (fun hc hr => ?_) fun hc hr => D0 hr
        obtain ⟨hg14, hr⟩ := of_guard1 hr
        obtain ⟨v10, hv10, hr⟩ := of_bind1 hr
        refine gb hv10 ?_
        refine iW1 hr (fun hc hr => D0 hr) fun hc hr => ?_
        obtain ⟨hg11, hr⟩ := of_guard1 hr
        obtain ⟨hg12, hr⟩ := of_guard1 hr
        obtain ⟨hg13, hr⟩ := of_guard1 hr
        repeat (first | refine gG hg11 ?_ | refine gG hg12 ?_ | refine gG hg13 ?_ | refine gA ?_ | refine gB ?_)
        refine iW1 hr (fun hc hr => ?_) fun hc hr => ?_
        · refine gr ?_
          refine S.prune [7] ?_
          refine S.gx [14, 22] ?_
          exact D0 hr
        · refine gr ?_
          refine S.prune [1, 7] ?_
          refine S.gx [14, 27] ?_
          exact D1 (S.ss [1, 7] [(1, 1)] []) hr
end

/- martensite/martensiteref03.SetupErr -/
def r65 (x0 x1 : Int) (x2 : L_II) (x3 : L_LIIE) : Option (Int) :=
  (r153 x0 x1 x2 x3).bind fun v1 =>
   some v1.2
def T65 := qT12 qu2 false r65
attribute [go_sem] T65
def tb65 : Fns := lk [(153, T153.sp)]
theorem tb65_ok : FnsOk Tryz.prog tb65 := .cons f153 .nil
theorem tk65 : tb65 153 = some T153.sp := rfl
section
attribute [local go_sem] tk65 Tryz.results65
theorem f65 : FnFact Tryz.prog 65 T65.sp := by
  refine valid_m ty_ok tb65_ok Tryz.func65 rfl Tryz.ntmps65 fun ⟨x0, x1, x2, x3⟩ r hr => ⟨nL rfl, fun stop S => ?_⟩
  replace hr : r65 x0 x1 x2 x3 = some r := hr
  unfold r65 at hr
  refine S.gx [] ?_
  exact D0 hr
end

/- martensite/martensiteref03.InTable -/
def r49 (x1 x2 : Int) (x0 : L_II) (x3 : L_LIIE) (a1 : Int) : Option (Bool) :=
  if 0 ≤ 0 ∧ 0 < (x0.length : Int) then
   if 0 ≤ IntKind.i64.wrap ((x0.length : Int) - 1) ∧ IntKind.i64.wrap ((x0.length : Int) - 1) < (x0.length : Int) then
    (r11 a1 ((x0.getD 0 default).1) ((x0.getD (IntKind.i64.wrap ((x0.length : Int) - 1)).toNat default).1)).bind fun v1 =>
     some v1
    else none
   else none
def T49 := qT31 qu1 false r49
attribute [go_sem] T49
def tb49 : Fns := lk [(11, T11.sp)]
theorem tb49_ok : FnsOk Tryz.prog tb49 := .cons f11 .nil
theorem tk49 : tb49 11 = some T11.sp := rfl
section
attribute [local go_sem] tk49 Tryz.results49
theorem f49 : FnFact Tryz.prog 49 T49.sp := by
  refine valid_m ty_ok tb49_ok Tryz.func49 rfl Tryz.ntmps49 fun ⟨x1, x2, x0, x3, a1⟩ r hr => ⟨nL rfl, fun stop S => ?_⟩
  replace hr : r49 x1 x2 x0 x3 a1 = some r := hr
  unfold r49 at hr
  refine S.gx [] ?_
  exact D0 hr
end

/- martensite/martensiteref03.CheckState -/
def b66_1 (x0 x1 : Int) (x2 : L_II) (x3 : L_LIIE) (a1 : L_I) : Bd Int (Int × Int) := fun s1 =>
  if (decide (s1 < (a1.length : Int))) = true then
   if 0 ≤ s1 ∧ s1 < (a1.length : Int) then
    bindC (r49 x0 x1 x2 x3 (a1.getD s1.toNat default)) fun v1 =>
     if (!v1) = true then
      .out (some (s1, 2))
      else .next (IntKind.i64.wrap (s1 + 1))
    else .out none
   else .out (some (0, 0))
def r66 (x0 x1 : Int) (x2 : L_II) (x3 : L_LIIE) (a1 : L_I) : Option (Int × Int) :=
  if ((a1.length : Int) != x0) = true then
   some (0, 10)
   else iterC (b66_1 x0 x1 x2 x3 a1) 1000000000 0
def T66 := qT17 qu3 false r66
attribute [go_sem] T66
def tb66 : Fns := lk [(49, T49.sp)]
theorem tb66_ok : FnsOk Tryz.prog tb66 := .cons f49 .nil
theorem tk66 : tb66 49 = some T49.sp := rfl
section
attribute [local go_sem] tk66 Tryz.results66
theorem f66 : FnFact Tryz.prog 66 T66.sp := by
  refine valid_m ty_ok tb66_ok Tryz.func66 rfl Tryz.ntmps66 fun ⟨x0, x1, x2, x3, a1⟩ r hr => ⟨nL rfl, fun stop S => ?_⟩
  replace hr : r66 x0 x1 x2 x3 a1 = some r := hr
  unfold r66 at hr
  refine S.gx [] ?_
  refine gr ?_
  refine iW hr (fun hc hr => D0 hr) fun hc hr => ?_
  refine gr ?_
  refine S.sees [1, 2, 6] [(2, 2)] [] ?_ (Stop.iter S (fun s1 => ⟨[(1, .c (.d (encF 1 d_I a1))), (2, .c (.ref 2 0)), (6, .c (.d (.int .i64 s1)))], [(2, [.d (.int .i64 x0), .d (.int .i64 x1), .d (encF 2 d_II x2), .d (encF 1 d_LIIE x3)])], []⟩) (b66_1 x0 x1 x2 x3 a1) (fun q => q = r) hr rfl ?_)
  · exact lf
  · intro s1 hr
    unfold b66_1 at hr
    refine S.gx [] ?_
    exact D1 (S.ss [1, 2, 6] [(2, 2)] []) hr
end

/- martensite/martensiteref03.StateErr -/
def r8 (x0 x1 : Int) (x2 : L_II) (x3 : L_LIIE) (a1 : L_I) : Option (Int) :=
  (r65 x0 x1 x2 x3).bind fun v1 =>
   if (v1 != 0) = true then
    some v1
    else (r66 x0 x1 x2 x3 a1).bind fun v2 =>
     some v2.2
def T8 := qT17 qu2 false r8
attribute [go_sem] T8
def tb8 : Fns := lk [(65, T65.sp), (66, T66.sp)]
theorem tb8_ok : FnsOk Tryz.prog tb8 := .cons f65 (.cons f66 .nil)
theorem tk8 : tb8 65 = some T65.sp ∧ tb8 66 = some T66.sp := ⟨rfl, rfl⟩
section
attribute [local go_sem] tk8 Tryz.results8
theorem f8 : FnFact Tryz.prog 8 T8.sp := by
  refine valid_m ty_ok tb8_ok Tryz.func8 rfl Tryz.ntmps8 fun ⟨x0, x1, x2, x3, a1⟩ r hr => ⟨nL rfl, fun stop S => ?_⟩
  replace hr : r8 x0 x1 x2 x3 a1 = some r := hr
  unfold r8 at hr
  refine S.gx [] ?_
  exact D0 hr
end

/- martensite/martensiteref03.LawErr -/
def r10 (x1 x2 : Int) (x3 : L_II) (x0 : L_LIIE) (a1 : Int) : Option (Int) :=
  (r11 a1 0 (IntKind.i64.wrap ((x0.length : Int) - 1))).bind fun v1 =>
   if (!v1) = true then
    some 6
    else some 0
def T10 := qT31 qu2 false r10
attribute [go_sem] T10
def tb10 : Fns := lk [(11, T11.sp)]
theorem tb10_ok : FnsOk Tryz.prog tb10 := .cons f11 .nil
theorem tk10 : tb10 11 = some T11.sp := rfl
section
attribute [local go_sem] tk10 Tryz.results10
theorem f10 : FnFact Tryz.prog 10 T10.sp := by
  refine valid_m ty_ok tb10_ok Tryz.func10 rfl Tryz.ntmps10 fun ⟨x1, x2, x3, x0, a1⟩ r hr => ⟨nL rfl, fun stop S => ?_⟩
  replace hr : r10 x1 x2 x3 x0 a1 = some r := hr
  unfold r10 at hr
  refine S.gx [] ?_
  exact D0 hr
end

/- martensite/martensiteref03.DriveErr -/
def b36_1 (x1 x2 : Int) (x3 : L_II) (x4 : L_LIIE) (x0 : L_I) (x5 : Int) : Bd Int Int := fun s1 =>
  if (decide (s1 < (x0.length : Int))) = true then
   if 0 ≤ s1 ∧ s1 < (x0.length : Int) then
    bindC (r11 (x0.getD s1.toNat default) 0 10000) fun v1 =>
     if (!v1) = true then
      .out (some 2)
      else .next (IntKind.i64.wrap (s1 + 1))
    else .out none
   else .out ((r10 x1 x2 x3 x4 x5).bind fun v3 =>
    some v3)
def r36 (x1 x2 : Int) (x3 : L_II) (x4 : L_LIIE) (x0 : L_I) (x5 : Int) : Option (Int) :=
  if ((x0.length : Int) != x1) = true then
   some 10
   else iterC (b36_1 x1 x2 x3 x4 x0 x5) 1000000000 0
def T36 := qT32 qu2 false r36
attribute [go_sem] T36
def tb36 : Fns := lk [(10, T10.sp), (11, T11.sp)]
theorem tb36_ok : FnsOk Tryz.prog tb36 := .cons f10 (.cons f11 .nil)
theorem tk36 : tb36 10 = some T10.sp ∧ tb36 11 = some T11.sp := ⟨rfl, rfl⟩
section
attribute [local go_sem] tk36 Tryz.results36
theorem f36 : FnFact Tryz.prog 36 T36.sp := by
  refine valid_m ty_ok tb36_ok Tryz.func36 rfl Tryz.ntmps36 fun ⟨x1, x2, x3, x4, x0, x5⟩ r hr => ⟨nL rfl, fun stop S => ?_⟩
  replace hr : r36 x1 x2 x3 x4 x0 x5 = some r := hr
  unfold r36 at hr
  refine S.gx [] ?_
  refine gr ?_
  refine iW hr (fun hc hr => D0 hr) fun hc hr => ?_
  refine gr ?_
  refine S.sees [2, 3, 5] [(2, 2), (3, 3)] [] ?_ (Stop.iter S (fun s1 => ⟨[(2, .c (.ref 2 0)), (3, .c (.ref 3 0)), (5, .c (.d (.int .i64 s1)))], [(2, [.d (.int .i64 x1), .d (.int .i64 x2), .d (encF 2 d_II x3), .d (encF 1 d_LIIE x4)]), (3, [.d (encF 1 d_I x0), .d (.int .i64 x5)])], []⟩) (b36_1 x1 x2 x3 x4 x0 x5) (fun q => q = r) hr rfl ?_)
  · exact lf
  · intro s1 hr
    unfold b36_1 at hr
    refine S.gx [] ?_
    exact D1 (S.ss [2, 3, 5] [(2, 2), (3, 3)] []) hr
end

/- martensite/martensiteref03.KelvinErr -/
def r67 (a0 : Int) : Option (Int) :=
  (r154 a0).bind fun v1 =>
   if (!v1) = true then
    some 2
    else some 0
def T67 := qT4 qu2 false r67
attribute [go_sem] T67
def tb67 : Fns := lk [(154, T154.sp)]
theorem tb67_ok : FnsOk Tryz.prog tb67 := .cons f154 .nil
theorem tk67 : tb67 154 = some T154.sp := rfl
section
attribute [local go_sem] tk67 Tryz.results67
theorem f67 : FnFact Tryz.prog 67 T67.sp := by
  refine valid_m ty_ok tb67_ok Tryz.func67 rfl Tryz.ntmps67 fun a0 r hr => ⟨nL rfl, fun stop S => ?_⟩
  replace hr : r67 a0 = some r := hr
  unfold r67 at hr
  refine S.gx [] ?_
  exact D0 hr
end

/- martensite/martensiteref03.TaskErr -/
def r9 (x0 x2 : Int) (x3 : L_II) (x4 : L_LIIE) (x5 : L_I) (x6 x7 x8 x1 : Int) : Option (Int) :=
  (r36 x0 x2 x3 x4 x5 x6).bind fun v1 =>
   if (v1 != 0) = true then
    some v1
    else (r67 x7).bind fun v2 =>
     if (v2 != 0) = true then
      some v2
      else (r11 x8 1 x0).bind fun v3 =>
       if (!(!v3)) = true → (r11 x1 0 200).isSome = true then
        if ((!v3) || (!((r11 x1 0 200).getD default))) = true then
         some 2
         else some 0
        else none
def T9 := qT33 qu2 false r9
attribute [go_sem] T9
def tb9 : Fns := lk [(11, T11.sp), (36, T36.sp), (67, T67.sp)]
theorem tb9_ok : FnsOk Tryz.prog tb9 := .cons f11 (.cons f36 (.cons f67 .nil))
theorem tk9 : tb9 11 = some T11.sp ∧ tb9 36 = some T36.sp ∧ tb9 67 = some T67.sp := ⟨rfl, rfl, rfl⟩
section
attribute [local go_sem] tk9 Tryz.results9
theorem f9 : FnFact Tryz.prog 9 T9.sp := by
  refine valid_m ty_ok tb9_ok Tryz.func9 rfl Tryz.ntmps9 fun ⟨x0, x2, x3, x4, x5, x6, x7, x8, x1⟩ r hr => ⟨nL rfl, fun stop S => ?_⟩
  replace hr : r9 x0 x2 x3 x4 x5 x6 x7 x8 x1 = some r := hr
  unfold r9 at hr
  refine S.gx [8, 9] ?_
  obtain ⟨v1, hv1, hr⟩ := of_bind0 hr
  refine gb hv1 ?_
  refine iW hr (fun hc hr => D0 hr) fun hc hr => ?_
  obtain ⟨v2, hv2, hr⟩ := of_bind0 hr
  refine gb hv2 ?_
  refine iW hr (fun hc hr => D0 hr) fun hc hr => ?_
  obtain ⟨v3, hv3, hr⟩ := of_bind0 hr
  obtain ⟨hg4, hr⟩ := of_guard0 hr
  try simp only [hv3, oG, oI, true_and, and_assoc]
  repeat (first | refine gG hg4 ?_ | refine gA ?_ | refine gB ?_)
  refine iW hr (fun hc hr => ?_) fun hc hr => ?_
  · refine gr ?_
    refine S.prune [] ?_
    refine S.gx [9] ?_
    exact D0 hr
  · refine gr ?_
    refine S.prune [] ?_
    refine S.gx [8] ?_
    exact D0 hr
end

/- martensite/martensiteref03.CopySetup -/
def b14_1 (x2 x3 : Int) (x1 : L_II) (x0 : L_LIIE) : Bd (Int × (List (L_II))) (Int × Int × L_II × L_LIIE) := fun s1 =>
  if (decide (s1.1 < (x0.length : Int))) = true then
   if 0 ≤ s1.1 ∧ s1.1 < (x0.length : Int) then
    if (0 + (x0.getD s1.1.toNat default).length) * 16 ≤ 140737488355328 ∧ 0 + (x0.getD s1.1.toNat default).length ≤ 9223372036854775807 then
     if (s1.2.length + 1) * 24 ≤ 140737488355328 ∧ s1.2.length + 1 ≤ 9223372036854775807 then
      .next (IntKind.i64.wrap (s1.1 + 1), s1.2 ++ [(x0.getD s1.1.toNat default)])
      else .out none
     else .out none
    else .out none
   else .out (some (x2, x3, x1, s1.2))
def r14 (x2 x3 : Int) (x1 : L_II) (x0 : L_LIIE) : Option (Int × Int × L_II × L_LIIE) :=
  if (0 + x1.length) * 16 ≤ 140737488355328 ∧ 0 + x1.length ≤ 9223372036854775807 then
   iterC (b14_1 x2 x3 x1 x0) 1000000000 (0, [])
   else none
def T14 := qT12 qu0 true r14
attribute [go_sem] T14
def tb14 : Fns := lk []
theorem tb14_ok : FnsOk Tryz.prog tb14 := FnsOk.nil
section
attribute [local go_sem] Tryz.results14
theorem f14 : FnFact Tryz.prog 14 T14.sp := by
  refine valid_m ty_ok tb14_ok Tryz.func14 rfl Tryz.ntmps14 fun ⟨x2, x3, x1, x0⟩ r hr => ⟨nL rfl, fun stop S => ?_⟩
  replace hr : r14 x2 x3 x1 x0 = some r := hr
  unfold r14 at hr
  refine S.gx [] ?_
  obtain ⟨hg4, hr⟩ := of_guard0 hr
  refine gr ?_
  refine S.own0b 3 3 2000303 1 rfl rfl (nL rfl) rfl ?_
  refine S.sees [1, 2, 3, 4] [(1, 1), (2, 2), (3, 3)] [(2000303, 2000303), (9, 9)] ?_ (Stop.iter S (fun s1 => ⟨[(1, .c (.ref 1 0)), (2, .c (.ref 2 0)), (3, .c (.ref 3 0)), (4, .c (.d (.int .i64 s1.1)))], [(1, [.d (.int .i64 x2), .d (.int .i64 x3), .d (encF 2 d_II x1), .d (encF 1 d_LIIE x0)]), (2, [.d (.int .i64 0), .d (.int .i64 0), .nils, .nils]), (3, [.d (.int .i64 x2), .d (.int .i64 x3), .own 9, .own 2000303])], [(2000303, .owned (encF 1 d_LIIE s1.2)), (9, .owned (encF 2 d_II x1))]⟩) (b14_1 x2 x3 x1 x0) (fun q => q = r) hr rfl ?_)
  · exact lf
  · intro s1 hr
    unfold b14_1 at hr
    refine S.gx [] ?_
    exact D1 (S.ss [1, 2, 3, 4] [(1, 1), (2, 2), (3, 3)] [(29, 2000303), (9, 9)]) hr
end
end Go.Proofs.YthldpejmofhaoaaGreatDoor

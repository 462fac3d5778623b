/- Contracts of functions, written by wip/dec. -/
import Derived.Test.YthldpejmofhaoaaGreatDoorF00
import Derived.Test.YthldpejmofhaoaaGreatDoorF01
set_option linter.unusedVariables false
set_option linter.unusedSimpArgs false
set_option maxHeartbeats 4000000
set_option maxRecDepth 20000
namespace Go.Proofs.YthldpejmofhaoaaGreatDoor
open Go.Abs
section
variable {β : Type} [Inhabited β] (u : β → List RV) (al : Bool)
abbrev qF34 (β : Type) := L_S → ByteArray → β
def qw34 (a0 : L_S) (a1 : ByteArray) : List Arg := [.c (encF 1 d_S a0), .c (.str a1)]
def qd34 (a : List Arg) := (decF g_S (aCell a 0 0), dStr (aCell a 1 0))
def qp34 {β : Type} (f : qF34 β) (c0 c1 : D) := f (decF g_S c0) (dStr c1)
abbrev qt34 (c0 c1 : D) : List Arg := [.c c0, .c c1]
def qT34 (r : qF34 (Option β)) := mkT (u2 qw34) qd34 (u2 r) u al
theorem qP34 (r : qF34 (Option β)) (c0 c1 : D) : PT (qT34 u al r).sp u (qt34 c0 c1) (qp34 qw34 c0 c1) (qp34 r c0 c1) := ⟨rfl, rfl⟩
theorem qa34 (r : qF34 (Option β)) : (qT34 u al r).sp.alias = al := rfl
attribute [go_sem] qw34 qp34 qt34 qP34 qa34
abbrev qF35 (β : Type) := ByteArray → ByteArray → β
def qw35 (a0 a1 : ByteArray) : List Arg := [.c (.str a0), .c (.str a1)]
def qd35 (a : List Arg) := (dStr (aCell a 0 0), dStr (aCell a 1 0))
def qp35 {β : Type} (f : qF35 β) (c0 c1 : D) := f (dStr c0) (dStr c1)
abbrev qt35 (c0 c1 : D) : List Arg := [.c c0, .c c1]
def qT35 (r : qF35 (Option β)) := mkT (u2 qw35) qd35 (u2 r) u al
theorem qP35 (r : qF35 (Option β)) (c0 c1 : D) : PT (qT35 u al r).sp u (qt35 c0 c1) (qp35 qw35 c0 c1) (qp35 r c0 c1) := ⟨rfl, rfl⟩
theorem qa35 (r : qF35 (Option β)) : (qT35 u al r).sp.alias = al := rfl
attribute [go_sem] qw35 qp35 qt35 qP35 qa35
abbrev qF36 (β : Type) := ByteArray → β
def qw36 (a0 : ByteArray) : List Arg := [.c (.str a0)]
def qd36 (a : List Arg) := dStr (aCell a 0 0)
def qp36 {β : Type} (f : qF36 β) (c0 : D) := f (dStr c0)
abbrev qt36 (c0 : D) : List Arg := [.c c0]
def qT36 (r : qF36 (Option β)) := mkT (u1 qw36) qd36 (u1 r) u al
theorem qP36 (r : qF36 (Option β)) (c0 : D) : PT (qT36 u al r).sp u (qt36 c0) (qp36 qw36 c0) (qp36 r c0) := ⟨rfl, rfl⟩
theorem qa36 (r : qF36 (Option β)) : (qT36 u al r).sp.alias = al := rfl
attribute [go_sem] qw36 qp36 qt36 qP36 qa36
abbrev qF37 (β : Type) := Int → Int → L_II → L_LIIE → Int → Int → L_II → L_LIIE → β
def qw37 (a0 a1 : Int) (a2 : L_II) (a3 : L_LIIE) (a4 a5 : Int) (a6 : L_II) (a7 : L_LIIE) : List Arg := [.agg [.int .i64 a0, .int .i64 a1, encF 2 d_II a2, encF 1 d_LIIE a3], .agg [.int .i64 a4, .int .i64 a5, encF 2 d_II a6, encF 1 d_LIIE a7]]
def qd37 (a : List Arg) := (dInt (aCell a 0 0), dInt (aCell a 0 1), decF g_II (aCell a 0 2), decF g_LIIE (aCell a 0 3), dInt (aCell a 1 0), dInt (aCell a 1 1), decF g_II (aCell a 1 2), decF g_LIIE (aCell a 1 3))
def qp37 {β : Type} (f : qF37 β) (c0 c1 c2 c3 c4 c5 c6 c7 : D) := f (dInt c0) (dInt c1) (decF g_II c2) (decF g_LIIE c3) (dInt c4) (dInt c5) (decF g_II c6) (decF g_LIIE c7)
abbrev qt37 (c0 c1 c2 c3 c4 c5 c6 c7 : D) : List Arg := [.agg [c0, c1, c2, c3], .agg [c4, c5, c6, c7]]
def qT37 (r : qF37 (Option β)) := mkT (u8 qw37) qd37 (u8 r) u al
theorem qP37 (r : qF37 (Option β)) (c0 c1 c2 c3 c4 c5 c6 c7 : D) : PT (qT37 u al r).sp u (qt37 c0 c1 c2 c3 c4 c5 c6 c7) (qp37 qw37 c0 c1 c2 c3 c4 c5 c6 c7) (qp37 r c0 c1 c2 c3 c4 c5 c6 c7) := ⟨rfl, rfl⟩
theorem qa37 (r : qF37 (Option β)) : (qT37 u al r).sp.alias = al := rfl
attribute [go_sem] qw37 qp37 qt37 qP37 qa37
def qu13 (v : ByteArray) : List RV := [.c (.d (.str v))]
attribute [go_sem] qu13
def qu14 (v : ByteArray × ByteArray × Bool) : List RV := [.c (.d (.str v.1)), .c (.d (.str v.2.1)), .c (.d (.bool v.2.2))]
attribute [go_sem] qu14
def qu15 (v : Int × Bool) : List RV := [.c (.d (.int .i64 v.1)), .c (.d (.err v.2))]
attribute [go_sem] qu15
def qu16 (v : Int × Int × Bool) : List RV := [.agg [.d (.int .i64 v.1), .d (.int .i64 v.2.1)], .c (.d (.bool v.2.2))]
attribute [go_sem] qu16
def qu17 (v : L_S) : List RV := [.c (.own (encF 1 d_S v))]
attribute [go_sem] qu17
def qu18 (v : L_II × Bool) : List RV := [.c (.own (encF 2 d_II v.1)), .c (.d (.bool v.2))]
attribute [go_sem] qu18
def qu19 (v : Int × Int × L_II × L_LIIE × Int) : List RV := [.agg [.d (.int .i64 v.1), .d (.int .i64 v.2.1), .own (encF 2 d_II v.2.2.1), .own (encF 1 d_LIIE v.2.2.2.1)], .c (.d (.int .i64 v.2.2.2.2))]
attribute [go_sem] qu19
end
/- strconv.Itoa -/
def r73 (a0 : Int) : Option (ByteArray) :=
  itoaV a0
def T73 := qT4 qu13 false r73
attribute [go_sem] T73
theorem f73 : FnFact Tryz.prog 73 T73.sp := ⟨⟨Tryz.f73, Tryz.func73, by decide, rfl⟩, lib_Itoa (fun _ => rfl) (fun _ => rfl) (fun _ => rfl) rfl⟩

/- strings.Join -/
def r77 (a0 : L_S) (a1 : ByteArray) : Option (ByteArray) :=
  joinV a0 a1
def T77 := qT34 qu13 false r77
attribute [go_sem] T77
theorem f77 : FnFact Tryz.prog 77 T77.sp := ⟨⟨Tryz.f77, Tryz.func77, by decide, rfl⟩, lib_Join (fun _ => rfl) (fun _ => rfl) (fun _ => rfl) rfl⟩

/- martensite/heat.list -/
def b74_1 (a0 : L_II) : Bd ((List (ByteArray)) × Int) ByteArray := fun s1 =>
  if (decide (s1.2 < (a0.length : Int))) = true then
   if 0 ≤ s1.2 ∧ s1.2 < (a0.length : Int) then
    bindC (r73 ((a0.getD s1.2.toNat default).1)) fun v1 =>
     if v1.size + (#[32] : Array UInt8).size ≤ 9223372036854775807 then
      bindC (r73 ((a0.getD s1.2.toNat default).2)) fun v2 =>
       if v1.size + (#[32] : Array UInt8).size + v2.size ≤ 9223372036854775807 then
        if (s1.1.length + 1) * 16 ≤ 140737488355328 ∧ s1.1.length + 1 ≤ 9223372036854775807 then
         .next (s1.1 ++ [(v1 ++ (⟨#[32]⟩ : ByteArray)) ++ v2], IntKind.i64.wrap (s1.2 + 1))
         else .out none
        else .out none
      else .out none
    else .out none
   else .out ((r77 s1.1 (⟨#[44]⟩ : ByteArray)).bind fun v7 =>
    some v7)
def r74 (a0 : L_II) : Option (ByteArray) :=
  iterC (b74_1 a0) 1000000000 ([], 0)
def T74 := qT5 qu13 false r74
attribute [go_sem] T74
def tb74 : Fns := lk [(73, T73.sp), (77, T77.sp)]
theorem tb74_ok : FnsOk Tryz.prog tb74 := .cons f73 (.cons f77 .nil)
theorem tk74 : tb74 73 = some T73.sp ∧ tb74 77 = some T77.sp := ⟨rfl, rfl⟩
section
attribute [local go_sem] tk74 Tryz.results74
theorem f74 : FnFact Tryz.prog 74 T74.sp := by
  refine valid_m ty_ok tb74_ok Tryz.func74 rfl Tryz.ntmps74 fun a0 r hr => ⟨nL rfl, fun stop S => ?_⟩
  replace hr : r74 a0 = some r := hr
  unfold r74 at hr
  refine S.gx [] ?_
  refine gr ?_
  refine S.own0 3 1000300 1 rfl rfl ?_
  refine S.sees [3, 6, 7, 8] [] [(1000300, 1000300)] ?_ (Stop.iter S (fun s1 => ⟨[(3, .c (.own 1000300)), (6, .c (.d (encF 2 d_II a0))), (7, .c (.d (.int .i64 (a0.length : Int)))), (8, .c (.d (.int .i64 s1.2)))], [], [(1000300, .owned (encF 1 d_S s1.1))]⟩) (b74_1 a0) (fun q => q = r) hr rfl ?_)
  · exact lf
  · intro s1 hr
    unfold b74_1 at hr
    refine S.gx [] ?_
    exact D1 (S.ss [3, 6, 7, 8] [] [(22, 1000300)]) hr
end

/- martensite/heat.FormatSetup -/
def b13_1 (x0 : L_LIIE) : Bd (Int × (List (ByteArray))) ByteArray := fun s1 =>
  if (decide (s1.1 < (x0.length : Int))) = true then
   if 0 ≤ s1.1 ∧ s1.1 < (x0.length : Int) then
    bindC (r76 (x0.getD s1.1.toNat default)) fun v5 =>
     bindC (r74 v5) fun v6 =>
      if (s1.2.length + 1) * 16 ≤ 140737488355328 ∧ s1.2.length + 1 ≤ 9223372036854775807 then
       .next (IntKind.i64.wrap (s1.1 + 1), s1.2 ++ [v6])
       else .out none
    else .out none
   else .out ((r77 s1.2 (⟨#[59]⟩ : ByteArray)).bind fun v9 =>
    some v9)
def r13 (x1 x2 : Int) (x3 : L_II) (x0 : L_LIIE) : Option (ByteArray) :=
  (r73 x1).bind fun v1 =>
   if v1.size + (#[32] : Array UInt8).size ≤ 9223372036854775807 then
    (r73 x2).bind fun v2 =>
     if v1.size + (#[32] : Array UInt8).size + v2.size ≤ 9223372036854775807 then
      (r75 x3).bind fun v3 =>
       (r74 v3).bind fun v4 =>
        iterC (b13_1 x0) 1000000000 (0, [(v1 ++ (⟨#[32]⟩ : ByteArray)) ++ v2, v4])
      else none
    else none
def T13 := qT12 qu13 false r13
attribute [go_sem] T13
def tb13 : Fns := lk [(73, T73.sp), (74, T74.sp), (75, T75.sp), (76, T76.sp), (77, T77.sp)]
theorem tb13_ok : FnsOk Tryz.prog tb13 := .cons f73 (.cons f74 (.cons f75 (.cons f76 (.cons f77 .nil))))
theorem tk13 : tb13 73 = some T73.sp ∧ tb13 74 = some T74.sp ∧ tb13 75 = some T75.sp ∧ tb13 76 = some T76.sp ∧ tb13 77 = some T77.sp := ⟨rfl, rfl, rfl, rfl, rfl⟩
section
attribute [local go_sem] tk13 Tryz.results13
theorem f13 : FnFact Tryz.prog 13 T13.sp := by
  refine valid_m ty_ok tb13_ok Tryz.func13 rfl Tryz.ntmps13 fun ⟨x1, x2, x3, x0⟩ r hr => ⟨nL rfl, fun stop S => ?_⟩
  replace hr : r13 x1 x2 x3 x0 = some r := hr
  unfold r13 at hr
  refine S.gx [] ?_
  obtain ⟨v1, hv1, hr⟩ := of_bind0 hr
  obtain ⟨hg10, hr⟩ := of_guard0 hr
  obtain ⟨v2, hv2, hr⟩ := of_bind0 hr
  obtain ⟨hg11, hr⟩ := of_guard0 hr
  obtain ⟨v3, hv3, hr⟩ := of_bind0 hr
  obtain ⟨v4, hv4, hr⟩ := of_bind0 hr
  refine gb hv1 ?_
  refine gb hv2 ?_
  refine gb hv3 ?_
  refine gb hv4 ?_
  refine S.sees [3, 20, 21, 22] [] [(18, 18)] ?_ (Stop.iter S (fun s1 => ⟨[(3, .c (.own 18)), (20, .c (.d (encF 1 d_LIIE x0))), (21, .c (.d (.int .i64 (x0.length : Int)))), (22, .c (.d (.int .i64 s1.1)))], [], [(18, .owned (encF 1 d_S s1.2))]⟩) (b13_1 x0) (fun q => q = r) hr rfl ?_)
  · exact lf
  · intro s1 hr
    unfold b13_1 at hr
    refine S.gx [] ?_
    exact D1 (S.ss [3, 20, 21, 22] [] [(31, 18)]) hr
end

/- internal/stringslite.Index -/
def r221 (a0 a1 : ByteArray) : Option (Int) :=
  indexV a0 a1
def T221 := qT35 qu2 false r221
attribute [go_sem] T221
theorem f221 : FnFact Tryz.prog 221 T221.sp := ⟨⟨Tryz.f221, Tryz.func221, by decide, rfl⟩, lib_IndexL (fun _ => rfl) (fun _ => rfl) (fun _ => rfl) rfl⟩

/- internal/stringslite.Cut -/
def r155 (a0 a1 : ByteArray) : Option (ByteArray × ByteArray × Bool) :=
  (r221 a0 a1).bind fun v1 =>
   if (decide (v1 ≥ 0)) = true then
    if 0 ≤ 0 ∧ 0 ≤ v1 ∧ v1 ≤ (a0.size : Int) then
     if 0 ≤ IntKind.i64.wrap (v1 + (a1.size : Int)) ∧ IntKind.i64.wrap (v1 + (a1.size : Int)) ≤ (a0.size : Int) ∧ (a0.size : Int) ≤ (a0.size : Int) then
      some (a0.extract 0 v1.toNat, a0.extract (IntKind.i64.wrap (v1 + (a1.size : Int))).toNat a0.size, true)
      else none
     else none
    else some (a0, (⟨#[]⟩ : ByteArray), false)
def T155 := qT35 qu14 false r155
attribute [go_sem] T155
def tb155 : Fns := lk [(221, T221.sp)]
theorem tb155_ok : FnsOk Tryz.prog tb155 := .cons f221 .nil
theorem tk155 : tb155 221 = some T221.sp := rfl
section
attribute [local go_sem] tk155 Tryz.results155
theorem f155 : FnFact Tryz.prog 155 T155.sp := by
  refine valid_m ty_ok tb155_ok Tryz.func155 rfl Tryz.ntmps155 fun ⟨a0, a1⟩ r hr => ⟨nL rfl, fun stop S => ?_⟩
  replace hr : r155 a0 a1 = some r := hr
  unfold r155 at hr
  refine S.gx [] ?_
  exact D0 hr
end

/- strings.Cut -/
def r68 (a0 a1 : ByteArray) : Option (ByteArray × ByteArray × Bool) :=
  (r155 a0 a1).bind fun v1 =>
   some (v1.1, v1.2.1, v1.2.2)
def T68 := qT35 qu14 false r68
attribute [go_sem] T68
def tb68 : Fns := lk [(155, T155.sp)]
theorem tb68_ok : FnsOk Tryz.prog tb68 := .cons f155 .nil
theorem tk68 : tb68 155 = some T155.sp := rfl
section
attribute [local go_sem] tk68 Tryz.results68
theorem f68 : FnFact Tryz.prog 68 T68.sp := by
  refine valid_m ty_ok tb68_ok Tryz.func68 rfl Tryz.ntmps68 fun ⟨a0, a1⟩ r hr => ⟨nL rfl, fun stop S => ?_⟩
  replace hr : r68 a0 a1 = some r := hr
  unfold r68 at hr
  refine S.gx [] ?_
  exact D0 hr
end

/- strconv.Atoi -/
def r187 (a0 : ByteArray) : Option (Int × Bool) :=
  atoiV a0
def T187 := qT36 qu15 false r187
attribute [go_sem] T187
theorem f187 : FnFact Tryz.prog 187 T187.sp := ⟨⟨Tryz.f187, Tryz.func187, by decide, rfl⟩, lib_Atoi (fun _ => rfl) (fun _ => rfl) (fun _ => rfl) rfl⟩

/- martensite/heat.natural -/
def r156 (a0 : ByteArray) : Option (Int × Bool) :=
  (r187 a0).bind fun v1 =>
   if ((!v1.2) && (decide (v1.1 ≥ 0))) = true → (r73 v1.1).isSome = true then
    some (v1.1, (((!v1.2) && (decide (v1.1 ≥ 0))) && (decide (((r73 v1.1).getD default) = a0))) && (decide ((a0.size : Int) ≤ 7)))
    else none
def T156 := qT36 qu5 false r156
attribute [go_sem] T156
def tb156 : Fns := lk [(73, T73.sp), (187, T187.sp)]
theorem tb156_ok : FnsOk Tryz.prog tb156 := .cons f73 (.cons f187 .nil)
theorem tk156 : tb156 73 = some T73.sp ∧ tb156 187 = some T187.sp := ⟨rfl, rfl⟩
section
attribute [local go_sem] tk156 Tryz.results156
theorem f156 : FnFact Tryz.prog 156 T156.sp := by
  refine valid_m ty_ok tb156_ok Tryz.func156 rfl Tryz.ntmps156 fun a0 r hr => ⟨nL rfl, fun stop S => ?_⟩
  replace hr : r156 a0 = some r := hr
  unfold r156 at hr
  refine S.gx [] ?_
  obtain ⟨v1, hv1, hr⟩ := of_bind0 hr
  obtain ⟨hg2, hr⟩ := of_guard0 hr
  try simp only [hv1, oG, oI, true_and, and_assoc]
  repeat (first | refine gG hg2 ?_ | refine gA ?_ | refine gB ?_)
  exact D0 hr
end

/- martensite/heat.two -/
def r69 (a0 : ByteArray) : Option (Int × Int × Bool) :=
  (r68 a0 (⟨#[32]⟩ : ByteArray)).bind fun v1 =>
   (r156 v1.1).bind fun v2 =>
    (r156 v1.2.1).bind fun v3 =>
     some (v2.1, v3.1, (v1.2.2 && v2.2) && v3.2)
def T69 := qT36 qu16 false r69
attribute [go_sem] T69
def tb69 : Fns := lk [(68, T68.sp), (156, T156.sp)]
theorem tb69_ok : FnsOk Tryz.prog tb69 := .cons f68 (.cons f156 .nil)
theorem tk69 : tb69 68 = some T68.sp ∧ tb69 156 = some T156.sp := ⟨rfl, rfl⟩
section
attribute [local go_sem] tk69 Tryz.results69
theorem f69 : FnFact Tryz.prog 69 T69.sp := by
  refine valid_m ty_ok tb69_ok Tryz.func69 rfl Tryz.ntmps69 fun a0 r hr => ⟨nL rfl, fun stop S => ?_⟩
  replace hr : r69 a0 = some r := hr
  unfold r69 at hr
  refine S.gx [] ?_
  obtain ⟨v1, hv1, hr⟩ := of_bind0 hr
  obtain ⟨v2, hv2, hr⟩ := of_bind0 hr
  obtain ⟨v3, hv3, hr⟩ := of_bind0 hr
  try simp only [hv1, hv2, hv3, Option.getD_some, Option.isSome_some, true_and, and_assoc]
  repeat (first | refine gA ?_ | refine gB ?_)
  exact D0 hr
end

/- strings.Split -/
def r70 (a0 a1 : ByteArray) : Option (L_S) :=
  splitV a0 a1
def T70 := qT35 qu17 false r70
attribute [go_sem] T70
theorem f70 : FnFact Tryz.prog 70 T70.sp := ⟨⟨Tryz.f70, Tryz.func70, by decide, rfl⟩, lib_Split (fun _ => rfl) (fun _ => rfl) (fun _ => rfl) rfl⟩

/- strings.Index -/
def r224 (a0 a1 : ByteArray) : Option (Int) :=
  indexV a0 a1
def T224 := qT35 qu2 false r224
attribute [go_sem] T224
theorem f224 : FnFact Tryz.prog 224 T224.sp := ⟨⟨Tryz.f224, Tryz.func224, by decide, rfl⟩, lib_Index (fun _ => rfl) (fun _ => rfl) (fun _ => rfl) rfl⟩

/- martensite/heat.parsed -/
def b71_1 : Bd (ByteArray × (List (Int × Int))) (L_II × Bool) := fun s1 =>
  bindC (r224 s1.1 (⟨#[44]⟩ : ByteArray)) fun v1 =>
   if (decide (v1 < 0)) = true then
    .out ((r69 s1.1).bind fun v2 =>
     if (!v2.2.2) = true then
      some ([], false)
      else if (s1.2.length + 1) * 16 ≤ 140737488355328 ∧ s1.2.length + 1 ≤ 9223372036854775807 then
       some (s1.2 ++ [(v2.1, v2.2.1)], true)
       else none)
    else if 0 ≤ 0 ∧ 0 ≤ IntKind.i64.wrap (v1 + 0) ∧ IntKind.i64.wrap (v1 + 0) ≤ (s1.1.size : Int) then
     bindC (r69 (s1.1.extract 0 (IntKind.i64.wrap (v1 + 0)).toNat)) fun v4 =>
      if (!v4.2.2) = true then
       .out (some ([], false))
       else if (s1.2.length + 1) * 16 ≤ 140737488355328 ∧ s1.2.length + 1 ≤ 9223372036854775807 then
        if 0 ≤ IntKind.i64.wrap (v1 + 1) ∧ IntKind.i64.wrap (v1 + 1) ≤ (s1.1.size : Int) ∧ (s1.1.size : Int) ≤ (s1.1.size : Int) then
         .next (s1.1.extract (IntKind.i64.wrap (v1 + 1)).toNat s1.1.size, s1.2 ++ [(v4.1, v4.2.1)])
         else .out none
        else .out none
     else .out none
def r71 (a0 : ByteArray) : Option (L_II × Bool) :=
  if (decide (a0 = (⟨#[]⟩ : ByteArray))) = true then
   some ([], true)
   else iterC (b71_1) 1000000000 (a0, [])
def T71 := qT36 qu18 false r71
attribute [go_sem] T71
def tb71 : Fns := lk [(69, T69.sp), (224, T224.sp)]
theorem tb71_ok : FnsOk Tryz.prog tb71 := .cons f69 (.cons f224 .nil)
theorem tk71 : tb71 69 = some T69.sp ∧ tb71 224 = some T224.sp := ⟨rfl, rfl⟩
section
attribute [local go_sem] tk71 Tryz.results71 Tryz.results158 Tryz.results225 Tryz.results269
theorem f71 : FnFact Tryz.prog 71 T71.sp := by
  refine valid_m ty_ok tb71_ok Tryz.func71 rfl Tryz.ntmps71 fun a0 r hr => ⟨nL rfl, fun stop S => ?_⟩
  replace hr : r71 a0 = some r := hr
  unfold r71 at hr
  refine S.gx [4] ?_
  refine gr ?_
  refine iW hr (fun hc hr => D0 hr) fun hc hr => ?_
  refine gr ?_
  refine S.inl 1 [2, 3, 4] [] Tryz.func158 (by decide) rfl Tryz.ntmps158 (fun cx e => drawn_ok ty_ok tb71_ok cx e) (some 11) rfl rfl rfl rfl (nL rfl) (nL rfl) ?_
  refine gs ?_
  refine gr ?_
  intro stop1 S1
  refine S1.gx [1] ?_
  refine gr ?_
  refine S1.inl 2 [] [] Tryz.func225 (by decide) rfl Tryz.ntmps225 (fun cx e => drawn_ok ty_ok tb71_ok cx e) (some 7) rfl rfl rfl rfl (nL rfl) (nL rfl) ?_
  refine gs ?_
  refine gr ?_
  intro stop2 S2
  refine S2.gx [] ?_
  refine gr ?_
  refine gr ?_
  refine S1.gx [1] ?_
  refine gr ?_
  refine gr ?_
  refine S.gx [4] ?_
  refine gr ?_
  refine S.range [2, 3, 4] Tryz.func269 (by decide) rfl Tryz.ntmps269 Tryz.results269 (fun cx e => drawn_ok ty_ok tb71_ok cx e) (fun cx e => drawn_ok ty_ok tb71_ok cx e) (by decide) rfl rfl (nL rfl) ?_
  intro l1 stop1 stopJ1 S1 SJ1 Y1
  refine S1.gx [3, 8, 10] ?_
  refine gr ?_
  refine S1.own0b 4 0 2000400 2 rfl rfl (nL rfl) rfl ?_
  refine S1.sees [0, 1, 2, 3] [(100004, 100004), (100003, 100003), (5, 5), (2, 2), (3, 3), (4, 4)] [(2000400, 2000400)] ?_ (Stop.iter S1 (fun s1 => ⟨[(0, .c (.yld l1)), (1, .c (.ref 100004 0)), (2, .c (.ref 100003 0)), (3, .c (.ref 5 0))], [(100004, [.d (.str (⟨#[44]⟩ : ByteArray))]), (100003, [.d (.str s1.1)]), (5, [.d (.int .i64 0)]), (2, [.nils]), (3, [.d (.bool false)]), (4, [.own 2000400])], [(2000400, .owned (encF 2 d_II s1.2))]⟩) (b71_1) (fun q => q = r) hr rfl ?_)
  · exact lf
  · intro s1 hr
    unfold b71_1 at hr
    refine S1.gx [3, 8, 10] ?_
    obtain ⟨v1, hv1, hr⟩ := of_bind1 hr
    refine gb hv1 ?_
    refine iW1 hr (fun hc hr => ?_) fun hc hr => ?_
    · refine gr ?_
      have hr := of_out0 hr
      refine gr ?_
      refine Y1 2 [] (some 51) rfl rfl rfl rfl (nL rfl) (by rfl) ?_
      refine gs ?_
      refine gr ?_
      intro stopA2 SA2
      refine SA2.gx [] ?_
      refine gr ?_
      intro stop2 S2
      refine S2.gx [4] ?_
      obtain ⟨v2, hv2, hr⟩ := of_bind0 hr
      refine gb hv2 ?_
      refine iW hr (fun hc hr => ?_) fun hc hr => ?_
      · refine gr ?_
        refine gr ?_
        refine (SJ1 .ret).gx [3, 8, 10] ?_
        refine gr ?_
        refine gr ?_
        refine S.gx [4] ?_
        exact D0 hr
      · obtain ⟨hg3, hr⟩ := of_guard0 hr
        refine gr ?_
        refine gr ?_
        refine S1.gx [3, 8, 10] ?_
        refine gr ?_
        refine gr ?_
        refine S.gx [4] ?_
        exact D0 hr
    · obtain ⟨hg7, hr⟩ := of_guard1 hr
      refine gr ?_
      refine Y1 2 [0, 1, 2, 3, 7] (some 41) rfl rfl rfl rfl (nL rfl) (by rfl) ?_
      refine gs ?_
      refine gr ?_
      intro stopA2 SA2
      refine SA2.gx [] ?_
      refine gr ?_
      intro stop2 S2
      refine S2.gx [4] ?_
      obtain ⟨v4, hv4, hr⟩ := of_bind1 hr
      refine gb hv4 ?_
      refine iW1 hr (fun hc hr => ?_) fun hc hr => ?_
      · refine gr ?_
        refine gr ?_
        refine (SJ1 .ret).gx [3, 8, 10] ?_
        refine gr ?_
        have hr := of_out0 hr
        refine gr ?_
        refine S.gx [4] ?_
        exact D0 hr
      · obtain ⟨hg6, hr⟩ := of_guard1 hr
        refine gr ?_
        refine gr ?_
        refine S1.gx [3, 8, 10] ?_
        exact D1 (S1.ss [0, 1, 2, 3] [(100004, 100004), (100003, 100003), (5, 5), (2, 2), (3, 3), (4, 4)] [(23, 2000400)]) hr
end

/- martensite/heat.ParseSetup -/
def b12_2 (s1 : Int × (List (Int × Int)) × (List (L_II))) (v4 : L_II × Bool) : Bd (Int × (List (Int × Int)) × (List (L_II))) (Ctl (Int × (List (Int × Int)) × (List (L_II))) (Int × Int × L_II × L_LIIE × Int)) := fun s2 =>
  if (decide (s2.1 < (v4.1.length : Int))) = true then
   if 0 ≤ s2.1 ∧ s2.1 < (v4.1.length : Int) then
    if (s1.1 == 0) = true then
     if (s2.2.1.length + 1) * 16 ≤ 140737488355328 ∧ s2.2.1.length + 1 ≤ 9223372036854775807 then
      .next (IntKind.i64.wrap (s2.1 + 1), s2.2.1 ++ [((v4.1.getD s2.1.toNat default).1, (v4.1.getD s2.1.toNat default).2)], s2.2.2)
      else .out none
     else if 0 ≤ IntKind.i64.wrap (s1.1 - 1) ∧ IntKind.i64.wrap (s1.1 - 1) < (s2.2.2.length : Int) then
      if ((s2.2.2.getD (IntKind.i64.wrap (s1.1 - 1)).toNat default).length + 1) * 16 ≤ 140737488355328 ∧ (s2.2.2.getD (IntKind.i64.wrap (s1.1 - 1)).toNat default).length + 1 ≤ 9223372036854775807 then
       if 0 ≤ IntKind.i64.wrap (s1.1 - 1) ∧ IntKind.i64.wrap (s1.1 - 1) < (s2.2.2.length : Int) then
        .next (IntKind.i64.wrap (s2.1 + 1), s2.2.1, s2.2.2.set (IntKind.i64.wrap (s1.1 - 1)).toNat ((s2.2.2.getD (IntKind.i64.wrap (s1.1 - 1)).toNat default) ++ [((v4.1.getD s2.1.toNat default).1, (v4.1.getD s2.1.toNat default).2)]))
        else .out none
       else .out none
      else .out none
    else .out none
   else .out (some (.next (IntKind.i64.wrap (s1.1 + 1), s2.2.1, s2.2.2)))
def b12_3 (s1 : Int × (List (Int × Int)) × (List (L_II))) (v4 : L_II × Bool) : Bd (Int × (List (Int × Int)) × (List (L_II))) (Ctl (Int × (List (Int × Int)) × (List (L_II))) (Int × Int × L_II × L_LIIE × Int)) := fun s3 =>
  if (decide (s3.1 < (v4.1.length : Int))) = true then
   if 0 ≤ s3.1 ∧ s3.1 < (v4.1.length : Int) then
    if (s1.1 == 0) = true then
     if (s3.2.1.length + 1) * 16 ≤ 140737488355328 ∧ s3.2.1.length + 1 ≤ 9223372036854775807 then
      .next (IntKind.i64.wrap (s3.1 + 1), s3.2.1 ++ [((v4.1.getD s3.1.toNat default).1, (v4.1.getD s3.1.toNat default).2)], s3.2.2)
      else .out none
     else if 0 ≤ IntKind.i64.wrap (s1.1 - 1) ∧ IntKind.i64.wrap (s1.1 - 1) < (s3.2.2.length : Int) then
      if ((s3.2.2.getD (IntKind.i64.wrap (s1.1 - 1)).toNat default).length + 1) * 16 ≤ 140737488355328 ∧ (s3.2.2.getD (IntKind.i64.wrap (s1.1 - 1)).toNat default).length + 1 ≤ 9223372036854775807 then
       if 0 ≤ IntKind.i64.wrap (s1.1 - 1) ∧ IntKind.i64.wrap (s1.1 - 1) < (s3.2.2.length : Int) then
        .next (IntKind.i64.wrap (s3.1 + 1), s3.2.1, s3.2.2.set (IntKind.i64.wrap (s1.1 - 1)).toNat ((s3.2.2.getD (IntKind.i64.wrap (s1.1 - 1)).toNat default) ++ [((v4.1.getD s3.1.toNat default).1, (v4.1.getD s3.1.toNat default).2)]))
        else .out none
       else .out none
      else .out none
    else .out none
   else .out (some (.next (IntKind.i64.wrap (s1.1 + 1), s3.2.1, s3.2.2)))
def b12_1 (v2 : Int × Int × Bool) (v3 : L_S) : Bd (Int × (List (Int × Int)) × (List (L_II))) (Int × Int × L_II × L_LIIE × Int) := fun s1 =>
  if (decide (s1.1 < (v3.length : Int))) = true then
   if 0 ≤ s1.1 ∧ s1.1 < (v3.length : Int) then
    bindC (r71 (v3.getD s1.1.toNat default)) fun v4 =>
     if (!v4.2) = true then
      .out (some (0, 0, [], [], 7))
      else if (decide (s1.1 > 0)) = true then
       if (s1.2.2.length + 1) * 24 ≤ 140737488355328 ∧ s1.2.2.length + 1 ≤ 9223372036854775807 then
        (iterC (b12_2 s1 v4) 1000000000 (0, s1.2.1, s1.2.2 ++ [[]])).getD (.out none)
        else .out none
       else (iterC (b12_3 s1 v4) 1000000000 (0, s1.2.1, s1.2.2)).getD (.out none)
    else .out none
   else .out ((r72 v2.1 v2.2.1 s1.2.1 s1.2.2).bind fun v17 =>
    if (v17.2 != 0) = true then
     some (0, 0, [], [], v17.2)
     else some (v2.1, v2.2.1, s1.2.1, s1.2.2, 0))
def r12 (a0 : ByteArray) : Option (Int × Int × L_II × L_LIIE × Int) :=
  if (decide ((a0.size : Int) > 60000)) = true then
   some (0, 0, [], [], 8)
   else (r68 a0 (⟨#[59]⟩ : ByteArray)).bind fun v1 =>
    (r69 v1.1).bind fun v2 =>
     if ((!v1.2.2) || (!v2.2.2)) = true then
      some (0, 0, [], [], 7)
      else (r70 v1.2.1 (⟨#[59]⟩ : ByteArray)).bind fun v3 =>
       iterC (b12_1 v2 v3) 1000000000 (0, [], [])
def T12 := qT36 qu19 true r12
attribute [go_sem] T12
def tb12 : Fns := lk [(68, T68.sp), (69, T69.sp), (70, T70.sp), (71, T71.sp), (72, T72.sp)]
theorem tb12_ok : FnsOk Tryz.prog tb12 := .cons f68 (.cons f69 (.cons f70 (.cons f71 (.cons f72 .nil))))
theorem tk12 : tb12 68 = some T68.sp ∧ tb12 69 = some T69.sp ∧ tb12 70 = some T70.sp ∧ tb12 71 = some T71.sp ∧ tb12 72 = some T72.sp := ⟨rfl, rfl, rfl, rfl, rfl⟩
section
attribute [local go_sem] tk12 Tryz.results12
theorem f12 : FnFact Tryz.prog 12 T12.sp := by
  refine valid_m ty_ok tb12_ok Tryz.func12 rfl Tryz.ntmps12 fun a0 r hr => ⟨nL rfl, fun stop S => ?_⟩
  replace hr : r12 a0 = some r := hr
  unfold r12 at hr
  refine S.gx [8, 24] ?_
  refine gr ?_
  refine iW hr (fun hc hr => D0 hr) fun hc hr => ?_
  obtain ⟨v1, hv1, hr⟩ := of_bind0 hr
  obtain ⟨v2, hv2, hr⟩ := of_bind0 hr
  try simp only [hv1, hv2, Option.getD_some, Option.isSome_some, true_and, and_assoc]
  repeat (first | refine gA ?_ | refine gB ?_)
  refine iW hr (fun hc hr => D0 hr) fun hc hr => ?_
  refine gr ?_
  refine S.prune [2, 5, 9] ?_
  refine S.gx [24] ?_
  obtain ⟨v3, hv3, hr⟩ := of_bind0 hr
  refine gb hv3 ?_
  refine gr ?_
  refine S.own0b 9 2 2000902 2 rfl rfl (nL rfl) rfl ?_
  refine S.own0b 9 3 2000903 1 rfl rfl (nL rfl) rfl ?_
  refine S.toDeep0 2000903 2 rfl rfl rfl ?_
  refine S.sees [2, 9, 46, 47, 48] [(2, 2), (9, 9)] [(2000902, 2000902), (2000903, 2000903), (46, 46)] ?_ (Stop.iter S (fun s1 => ⟨[(2, .c (.ref 2 0)), (9, .c (.ref 9 0)), (46, .c (.own 46)), (47, .c (.d (.int .i64 (v3.length : Int)))), (48, .c (.d (.int .i64 s1.1)))], [(2, [.d (.int .i64 0), .d (.int .i64 0), .nils, .nils]), (9, [.d (.int .i64 v2.1), .d (.int .i64 v2.2.1), .own 2000902, .own 2000903])], [(2000902, .owned (encF 2 d_II s1.2.1)), (2000903, .deep (encF 1 d_LIIE s1.2.2)), (46, .owned (encF 1 d_S v3))]⟩) (b12_1 v2 v3) (fun q => q = r) hr rfl ?_)
  · exact lf
  · intro s1 hr
    unfold b12_1 at hr
    refine S.gx [8, 24] ?_
    refine gr ?_
    refine iW1 hr (fun hc hr => ?_) fun hc hr => ?_
    · obtain ⟨hg16, hr⟩ := of_guard1 hr
      obtain ⟨v4, hv4, hr⟩ := of_bind1 hr
      refine gb hv4 ?_
      refine iW1 hr (fun hc hr => D0 hr) fun hc hr => ?_
      refine gr ?_
      refine iW1 hr (fun hc hr => ?_) fun hc hr => ?_
      · obtain ⟨hg10, hr⟩ := of_guard1 hr
        refine gr ?_
        obtain ⟨q2, hq, hr⟩ := of_iter1 hr
        refine S.sees [2, 9, 10, 46, 47, 48, 68, 69, 70] [(2, 2), (9, 9)] [(46, 46), (55, 55), (2000902, 2000902), (66, 66)] ?_ (Stop.iter S (fun s2 => ⟨[(2, .c (.ref 2 0)), (9, .c (.ref 9 0)), (10, .c (.d (.int .i64 s1.1))), (46, .c (.own 46)), (47, .c (.d (.int .i64 (v3.length : Int)))), (48, .c (.d (.int .i64 s1.1))), (68, .c (.own 55)), (69, .c (.d (.int .i64 (v4.1.length : Int)))), (70, .c (.d (.int .i64 s2.1)))], [(2, [.d (.int .i64 0), .d (.int .i64 0), .nils, .nils]), (9, [.d (.int .i64 v2.1), .d (.int .i64 v2.2.1), .own 2000902, .own 66])], [(46, .owned (encF 1 d_S v3)), (55, .owned (encF 2 d_II v4.1)), (2000902, .owned (encF 2 d_II s2.2.1)), (66, .deep (encF 1 d_LIIE s2.2.2))]⟩) (b12_2 s1 v4) _ hq hr ?_)
        · exact lf
        · intro s2 hr
          unfold b12_2 at hr
          refine S.gx [8, 24] ?_
          refine gr ?_
          refine iW1 hr (fun hc hr => ?_) fun hc hr => ?_
          · obtain ⟨hg9, hr⟩ := of_guard1 hr
            refine gr ?_
            exact iW1 hr (fun hc hr => D1 (S.ss [2, 9, 10, 46, 47, 48, 68, 69, 70] [(2, 2), (9, 9)] [(46, 46), (55, 55), (84, 2000902), (66, 66)]) hr) fun hc hr => D1 (S.ss [2, 9, 10, 46, 47, 48, 68, 69, 70] [(2, 2), (9, 9)] [(46, 46), (55, 55), (2000902, 2000902), (66, 66)]) hr
          · refine gr ?_
            replace hr := goodC_out hr
            exact D1 (S.ss [2, 9, 46, 47, 48] [(2, 2), (9, 9)] [(2000902, 2000902), (66, 2000903), (46, 46)]) hr
      · refine gr ?_
        obtain ⟨q3, hq, hr⟩ := of_iter1 hr
        refine S.sees [2, 9, 10, 46, 47, 48, 68, 69, 70] [(2, 2), (9, 9)] [(46, 46), (55, 55), (2000902, 2000902), (2000903, 2000903)] ?_ (Stop.iter S (fun s3 => ⟨[(2, .c (.ref 2 0)), (9, .c (.ref 9 0)), (10, .c (.d (.int .i64 s1.1))), (46, .c (.own 46)), (47, .c (.d (.int .i64 (v3.length : Int)))), (48, .c (.d (.int .i64 s1.1))), (68, .c (.own 55)), (69, .c (.d (.int .i64 (v4.1.length : Int)))), (70, .c (.d (.int .i64 s3.1)))], [(2, [.d (.int .i64 0), .d (.int .i64 0), .nils, .nils]), (9, [.d (.int .i64 v2.1), .d (.int .i64 v2.2.1), .own 2000902, .own 2000903])], [(46, .owned (encF 1 d_S v3)), (55, .owned (encF 2 d_II v4.1)), (2000902, .owned (encF 2 d_II s3.2.1)), (2000903, .deep (encF 1 d_LIIE s3.2.2))]⟩) (b12_3 s1 v4) _ hq hr ?_)
        · exact lf
        · intro s3 hr
          unfold b12_3 at hr
          refine S.gx [8, 24] ?_
          refine gr ?_
          refine iW1 hr (fun hc hr => ?_) fun hc hr => ?_
          · obtain ⟨hg15, hr⟩ := of_guard1 hr
            refine gr ?_
            exact iW1 hr (fun hc hr => D1 (S.ss [2, 9, 10, 46, 47, 48, 68, 69, 70] [(2, 2), (9, 9)] [(46, 46), (55, 55), (84, 2000902), (2000903, 2000903)]) hr) fun hc hr => D1 (S.ss [2, 9, 10, 46, 47, 48, 68, 69, 70] [(2, 2), (9, 9)] [(46, 46), (55, 55), (2000902, 2000902), (2000903, 2000903)]) hr
          · refine gr ?_
            replace hr := goodC_out hr
            exact D1 (S.ss [2, 9, 46, 47, 48] [(2, 2), (9, 9)] [(2000902, 2000902), (2000903, 2000903), (46, 46)]) hr
    · refine gr ?_
      have hr := of_out0 hr
      refine gr ?_
      refine S.undeep 2000903 (encF 1 d_LIIE s1.2.2) rfl ?_ ?_
      · exact lf
      refine S.gx [8] ?_
      exact D0 hr
end

/- martensite/martensiteref03.SameSetup -/
def b15_3 (x0 x1 : L_LIIE) (s2 : Int) : Bd Int (Ctl (Int) (Bool)) := fun s3 =>
  if 0 ≤ s2 ∧ s2 < (x0.length : Int) then
   if (decide (s3 < ((x0.getD s2.toNat default).length : Int))) = true then
    if 0 ≤ s2 ∧ s2 < (x0.length : Int) then
     if 0 ≤ s3 ∧ s3 < ((x0.getD s2.toNat default).length : Int) then
      if 0 ≤ s2 ∧ s2 < (x1.length : Int) then
       if 0 ≤ s3 ∧ s3 < ((x1.getD s2.toNat default).length : Int) then
        if (!((((x0.getD s2.toNat default).getD s3.toNat default).1 == ((x1.getD s2.toNat default).getD s3.toNat default).1) && (((x0.getD s2.toNat default).getD s3.toNat default).2 == ((x1.getD s2.toNat default).getD s3.toNat default).2))) = true then
         .out (some (.out (some false)))
         else .next (IntKind.i64.wrap (s3 + 1))
        else .out none
       else .out none
      else .out none
     else .out none
    else .out (some (.next (IntKind.i64.wrap (s2 + 1))))
   else .out none
def b15_2 (x0 x1 : L_LIIE) : Bd Int Bool := fun s2 =>
  if (decide (s2 < (x0.length : Int))) = true then
   if 0 ≤ s2 ∧ s2 < (x0.length : Int) then
    if 0 ≤ s2 ∧ s2 < (x1.length : Int) then
     if (((x0.getD s2.toNat default).length : Int) != ((x1.getD s2.toNat default).length : Int)) = true then
      .out (some false)
      else (iterC (b15_3 x0 x1 s2) 1000000000 0).getD (.out none)
     else .out none
    else .out none
   else .out (some true)
def b15_1 (x2 : L_II) (x0 : L_LIIE) (x3 : L_II) (x1 : L_LIIE) : Bd Int Bool := fun s1 =>
  if (decide (s1 < (x2.length : Int))) = true then
   if 0 ≤ s1 ∧ s1 < (x2.length : Int) then
    if 0 ≤ s1 ∧ s1 < (x3.length : Int) then
     if (!(((x2.getD s1.toNat default).1 == (x3.getD s1.toNat default).1) && ((x2.getD s1.toNat default).2 == (x3.getD s1.toNat default).2))) = true then
      .out (some false)
      else .next (IntKind.i64.wrap (s1 + 1))
     else .out none
    else .out none
   else .out (iterC (b15_2 x0 x1) 1000000000 0)
def r15 (x4 x5 : Int) (x2 : L_II) (x0 : L_LIIE) (x6 x7 : Int) (x3 : L_II) (x1 : L_LIIE) : Option (Bool) :=
  if ((((x4 != x6) || (x5 != x7)) || ((x2.length : Int) != (x3.length : Int))) || ((x0.length : Int) != (x1.length : Int))) = true then
   some false
   else iterC (b15_1 x2 x0 x3 x1) 1000000000 0
def T15 := qT37 qu1 false r15
attribute [go_sem] T15
def tb15 : Fns := lk []
theorem tb15_ok : FnsOk Tryz.prog tb15 := FnsOk.nil
section
attribute [local go_sem] Tryz.results15
theorem f15 : FnFact Tryz.prog 15 T15.sp := by
  refine valid_m ty_ok tb15_ok Tryz.func15 rfl Tryz.ntmps15 fun ⟨x4, x5, x2, x0, x6, x7, x3, x1⟩ r hr => ⟨nL rfl, fun stop S => ?_⟩
  replace hr : r15 x4 x5 x2 x0 x6 x7 x3 x1 = some r := hr
  unfold r15 at hr
  refine S.gx [2, 3] ?_
  repeat (first | refine gA ?_ | refine gB ?_)
  refine iW hr (fun hc hr => ?_) fun hc hr => ?_
  · refine gr ?_
    refine S.prune [] ?_
    refine S.gx [3] ?_
    exact D0 hr
  · refine gr ?_
    refine S.prune [2, 3] ?_
    refine S.gx [2] ?_
    refine gr ?_
    refine gr ?_
    refine S.sees [2, 3, 5] [(2, 2), (3, 3)] [] ?_ (Stop.iter S (fun s1 => ⟨[(2, .c (.ref 2 0)), (3, .c (.ref 3 0)), (5, .c (.d (.int .i64 s1)))], [(2, [.d (.int .i64 x4), .d (.int .i64 x5), .d (encF 2 d_II x2), .d (encF 1 d_LIIE x0)]), (3, [.d (.int .i64 x6), .d (.int .i64 x7), .d (encF 2 d_II x3), .d (encF 1 d_LIIE x1)])], []⟩) (b15_1 x2 x0 x3 x1) (fun q => q = r) hr rfl ?_)
    · exact lf
    · intro s1 hr
      unfold b15_1 at hr
      refine S.gx [2, 3] ?_
      refine gr ?_
      refine iW1 hr (fun hc hr => D1 (S.ss [2, 3, 5] [(2, 2), (3, 3)] []) hr) fun hc hr => ?_
      refine gr ?_
      have hr := of_out0 hr
      refine gr ?_
      refine S.sees [2, 3, 6] [(2, 2), (3, 3)] [] ?_ (Stop.iter S (fun s2 => ⟨[(2, .c (.ref 2 0)), (3, .c (.ref 3 0)), (6, .c (.d (.int .i64 s2)))], [(2, [.d (.int .i64 x4), .d (.int .i64 x5), .d (encF 2 d_II x2), .d (encF 1 d_LIIE x0)]), (3, [.d (.int .i64 x6), .d (.int .i64 x7), .d (encF 2 d_II x3), .d (encF 1 d_LIIE x1)])], []⟩) (b15_2 x0 x1) (fun q => q = r) hr rfl ?_)
      · exact lf
      · intro s2 hr
        unfold b15_2 at hr
        refine S.gx [2, 3] ?_
        refine gr ?_
        refine iW1 hr (fun hc hr => ?_) fun hc hr => D0 hr
        obtain ⟨hg8, hr⟩ := of_guard1 hr
        obtain ⟨hg9, hr⟩ := of_guard1 hr
        refine gr ?_
        refine iW1 hr (fun hc hr => D0 hr) fun hc hr => ?_
        refine gr ?_
        obtain ⟨q3, hq, hr⟩ := of_iter1 hr
        refine S.sees [2, 3, 6, 7] [(2, 2), (3, 3)] [] ?_ (Stop.iter S (fun s3 => ⟨[(2, .c (.ref 2 0)), (3, .c (.ref 3 0)), (6, .c (.d (.int .i64 s2))), (7, .c (.d (.int .i64 s3)))], [(2, [.d (.int .i64 x4), .d (.int .i64 x5), .d (encF 2 d_II x2), .d (encF 1 d_LIIE x0)]), (3, [.d (.int .i64 x6), .d (.int .i64 x7), .d (encF 2 d_II x3), .d (encF 1 d_LIIE x1)])], []⟩) (b15_3 x0 x1 s2) _ hq hr ?_)
        · exact lf
        · intro s3 hr
          unfold b15_3 at hr
          refine S.gx [2, 3] ?_
          obtain ⟨hg7, hr⟩ := of_guard1 hr
          refine gr ?_
          refine iW1 hr (fun hc hr => ?_) fun hc hr => ?_
          · obtain ⟨hg3, hr⟩ := of_guard1 hr
            obtain ⟨hg4, hr⟩ := of_guard1 hr
            obtain ⟨hg5, hr⟩ := of_guard1 hr
            obtain ⟨hg6, hr⟩ := of_guard1 hr
            refine gr ?_
            refine iW1 hr (fun hc hr => ?_) fun hc hr => D1 (S.ss [2, 3, 6, 7] [(2, 2), (3, 3)] []) hr
            refine gr ?_
            replace hr := goodC_out hr
            exact D0 hr
          · refine gr ?_
            replace hr := goodC_out hr
            exact D1 (S.ss [2, 3, 6] [(2, 2), (3, 3)] []) hr
end

/- martensite/martensitebase.CopyInts -/
def r17 (a0 : L_I) : Option (L_I) :=
  if (0 + a0.length) * 8 ≤ 140737488355328 ∧ 0 + a0.length ≤ 9223372036854775807 then
   some a0
   else none
def T17 := qT3 qu11 false r17
attribute [go_sem] T17
def tb17 : Fns := lk []
theorem tb17_ok : FnsOk Tryz.prog tb17 := FnsOk.nil
section
attribute [local go_sem] Tryz.results17
theorem f17 : FnFact Tryz.prog 17 T17.sp := by
  refine valid_m ty_ok tb17_ok Tryz.func17 rfl Tryz.ntmps17 fun a0 r hr => ⟨nL rfl, fun stop S => ?_⟩
  replace hr : r17 a0 = some r := hr
  unfold r17 at hr
  refine S.gx [] ?_
  exact D0 hr
end
end Go.Proofs.YthldpejmofhaoaaGreatDoor

/- Contracts of functions, written by wip/dec. -/
import Derived.Test.YthcpkkpjegldoaaDoorF00
set_option linter.unusedVariables false
set_option linter.unusedSimpArgs false
set_option linter.constructorNameAsVariable false
set_option maxHeartbeats 4000000
set_option maxRecDepth 20000
namespace Go.Proofs.YthcpkkpjegldoaaDoor
open Go.Abs
section
variable {β : Type} [Inhabited β] (u : β → List RV) (al : Bool)
abbrev qF5 (β : Type) := Bool → Int → β
def qw5 (a0 : Bool) (a1 : Int) : List Arg := [.c (.bool a0), .c (.int .i64 a1)]
def qd5 (a : List Arg) := (dBool (aCell a 0 0), dInt (aCell a 1 0))
def qp5 {β : Type} (f : qF5 β) (c0 c1 : D) := f (dBool c0) (dInt c1)
abbrev qt5 (c0 c1 : D) : List Arg := [.c c0, .c c1]
def qT5 (r : qF5 (Option β)) := mkT (u2 qw5) qd5 (u2 r) u al
theorem qP5 (r : qF5 (Option β)) (c0 c1 : D) : PT (qT5 u al r).sp u (qt5 c0 c1) (qp5 qw5 c0 c1) (qp5 r c0 c1) := ⟨rfl, rfl⟩
theorem qa5 (r : qF5 (Option β)) : (qT5 u al r).sp.alias = al := rfl
attribute [go_sem] qw5 qp5 qt5 qP5 qa5
abbrev qF7 (β : Type) := Int → L_II → Int → (Option (Int × L_II × Int)) → Int → β
def qw7 (a0 : Int) (a1 : L_II) (a2 : Int) (a3 : Option (Int × L_II × Int)) (a4 : Int) : List Arg := [.agg [.int .i64 a0, encF 2 d_II a1, .int .i64 a2], .c (encP d_ILIIEI a3), .c (.int .i64 a4)]
def qd7 (a : List Arg) := (dInt (aCell a 0 0), decF g_II (aCell a 0 1), dInt (aCell a 0 2), decP g_ILIIEI (aCell a 1 0), dInt (aCell a 2 0))
def qp7 {β : Type} (f : qF7 β) (c0 c1 c2 c3 c4 : D) := f (dInt c0) (decF g_II c1) (dInt c2) (decP g_ILIIEI c3) (dInt c4)
abbrev qt7 (c0 c1 c2 c3 c4 : D) : List Arg := [.agg [c0, c1, c2], .c c3, .c c4]
def qT7 (r : qF7 (Option β)) := mkT (u5 qw7) qd7 (u5 r) u al
theorem qP7 (r : qF7 (Option β)) (c0 c1 c2 c3 c4 : D) : PT (qT7 u al r).sp u (qt7 c0 c1 c2 c3 c4) (qp7 qw7 c0 c1 c2 c3 c4) (qp7 r c0 c1 c2 c3 c4) := ⟨rfl, rfl⟩
theorem qa7 (r : qF7 (Option β)) : (qT7 u al r).sp.alias = al := rfl
attribute [go_sem] qw7 qp7 qt7 qP7 qa7
abbrev qF8 (β : Type) := L_I → β
def qw8 (a0 : L_I) : List Arg := [.c (encF 1 d_I a0), .clo 56 []]
def qd8 (a : List Arg) := decF g_I (aCell a 0 0)
def qp8 {β : Type} (f : qF8 β) (c0 : D) := f (decF g_I c0)
abbrev qt8 (c0 : D) : List Arg := [.c c0, .clo 56 []]
def qT8 (r : qF8 (Option β)) := mkT (u1 qw8) qd8 (u1 r) u al
theorem qP8 (r : qF8 (Option β)) (c0 : D) : PT (qT8 u al r).sp u (qt8 c0) (qp8 qw8 c0) (qp8 r c0) := ⟨rfl, rfl⟩
theorem qa8 (r : qF8 (Option β)) : (qT8 u al r).sp.alias = al := rfl
attribute [go_sem] qw8 qp8 qt8 qP8 qa8
def qu0 (v : L_IIII × L_IIIII × L_III × L_II × Int × Int × Int × Int) : List RV := [.agg [.own (encF 4 d_IIII v.1), .own (encF 5 d_IIIII v.2.1), .own (encF 3 d_III v.2.2.1), .own (encF 2 d_II v.2.2.2.1), .d (.int .i64 v.2.2.2.2.1), .d (.int .i64 v.2.2.2.2.2.1), .d (.int .i64 v.2.2.2.2.2.2.1), .d (.int .i64 v.2.2.2.2.2.2.2)]]
attribute [go_sem] qu0
def qu2 (v : L_ILIIEI × L_ILIIEI × L_ILIIEI × L_ILIIEI) : List RV := [.agg [.own (encF 3 d_ILIIEI v.1), .own (encF 3 d_ILIIEI v.2.1), .own (encF 3 d_ILIIEI v.2.2.1), .own (encF 3 d_ILIIEI v.2.2.2)]]
attribute [go_sem] qu2
end
/- martensite/martensitelaw04.Rules -/
def r11 : Option (L_IIII × L_IIIII × L_III × L_II × Int × Int × Int × Int) :=
  some ([(1000, 200000, 400000, 10), (1200, 500000, 600000, 30)], [(600, 0, 0, 0, 0), (800, 200000, 500000, 50000, 100000)], [(300, 900000, 950000), (500, 100000, 300000)], [(400, 5)], 200, 250, 400, 800)
def T11 := qT0 qu0 false r11
attribute [go_sem] T11
def tb11 : Fns := lk []
theorem tb11_ok : FnsOk Tryd.prog tb11 := FnsOk.nil
section
attribute [local go_sem] Tryd.results11
theorem f11 : FnFact Tryd.prog 11 T11.sp := by
  refine valid_m ty_ok tb11_ok Tryd.func11 rfl Tryd.ntmps11 fun _ r hr => ⟨nL rfl, fun stop S => ?_⟩
  replace hr : r11 = some r := hr
  unfold r11 at hr
  refine S.gx [] ?_
  exact D0 hr
end

/- martensite/martensitelaw04.Parent -/
def r12 : Option (Int × Int × Int × Int × Int × Int × Int) :=
  some (1000000, 0, 0, 0, 0, 0, 0)
def T12 := qT0 qu1 false r12
attribute [go_sem] T12
def tb12 : Fns := lk []
theorem tb12_ok : FnsOk Tryd.prog tb12 := FnsOk.nil
section
attribute [local go_sem] Tryd.results12
theorem f12 : FnFact Tryd.prog 12 T12.sp := by
  refine valid_m ty_ok tb12_ok Tryd.func12 rfl Tryd.ntmps12 fun _ r hr => ⟨nL rfl, fun stop S => ?_⟩
  replace hr : r12 = some r := hr
  unfold r12 at hr
  refine S.gx [] ?_
  exact D0 hr
end

/- martensite/steel.kinds -/
def b54_4 (x0 : L_II) (s1 s2 s3 : Int × (List (Int × L_II × Int))) : Bd (Int × (List (Int × L_II × Int))) (L_ILIIEI × L_ILIIEI × L_ILIIEI × L_ILIIEI) := fun s4 =>
  if (decide (s4.1 < (x0.length : Int))) = true then
   if 0 ≤ s4.1 ∧ s4.1 < (x0.length : Int) then
    if (s4.2.length + 1) * 40 ≤ 140737488355328 ∧ s4.2.length + 1 ≤ 9223372036854775807 then
     .next (IntKind.i64.wrap (s4.1 + 1), s4.2 ++ [((x0.getD s4.1.toNat default).1, [], (x0.getD s4.1.toNat default).2)])
     else .out none
    else .out none
   else .out (some (s1.2, s2.2, s3.2, s4.2))
def b54_3 (x1 : L_III) (x0 : L_II) (s1 s2 : Int × (List (Int × L_II × Int))) : Bd (Int × (List (Int × L_II × Int))) (L_ILIIEI × L_ILIIEI × L_ILIIEI × L_ILIIEI) := fun s3 =>
  if (decide (s3.1 < (x1.length : Int))) = true then
   if 0 ≤ s3.1 ∧ s3.1 < (x1.length : Int) then
    if (s3.2.length + 1) * 40 ≤ 140737488355328 ∧ s3.2.length + 1 ≤ 9223372036854775807 then
     .next (IntKind.i64.wrap (s3.1 + 1), s3.2 ++ [((x1.getD s3.1.toNat default).1, [((x1.getD s3.1.toNat default).2.1, (x1.getD s3.1.toNat default).2.2)], 0)])
     else .out none
    else .out none
   else .out (iterC (b54_4 x0 s1 s2 s3) 1000000000 (0, []))
def b54_2 (x2 : L_IIIII) (x1 : L_III) (x0 : L_II) (s1 : Int × (List (Int × L_II × Int))) : Bd (Int × (List (Int × L_II × Int))) (L_ILIIEI × L_ILIIEI × L_ILIIEI × L_ILIIEI) := fun s2 =>
  if (decide (s2.1 < (x2.length : Int))) = true then
   if 0 ≤ s2.1 ∧ s2.1 < (x2.length : Int) then
    if (s2.2.length + 1) * 40 ≤ 140737488355328 ∧ s2.2.length + 1 ≤ 9223372036854775807 then
     .next (IntKind.i64.wrap (s2.1 + 1), s2.2 ++ [((x2.getD s2.1.toNat default).1, [((x2.getD s2.1.toNat default).2.1, (x2.getD s2.1.toNat default).2.2.1), ((x2.getD s2.1.toNat default).2.2.2.1, (x2.getD s2.1.toNat default).2.2.2.2)], 0)])
     else .out none
    else .out none
   else .out (iterC (b54_3 x1 x0 s1 s2) 1000000000 (0, []))
def b54_1 (x3 : L_IIII) (x2 : L_IIIII) (x1 : L_III) (x0 : L_II) : Bd (Int × (List (Int × L_II × Int))) (L_ILIIEI × L_ILIIEI × L_ILIIEI × L_ILIIEI) := fun s1 =>
  if (decide (s1.1 < (x3.length : Int))) = true then
   if 0 ≤ s1.1 ∧ s1.1 < (x3.length : Int) then
    if (s1.2.length + 1) * 40 ≤ 140737488355328 ∧ s1.2.length + 1 ≤ 9223372036854775807 then
     .next (IntKind.i64.wrap (s1.1 + 1), s1.2 ++ [((x3.getD s1.1.toNat default).1, [((x3.getD s1.1.toNat default).2.1, (x3.getD s1.1.toNat default).2.2.1)], (x3.getD s1.1.toNat default).2.2.2)])
     else .out none
    else .out none
   else .out (iterC (b54_2 x2 x1 x0 s1) 1000000000 (0, []))
def r54 (x3 : L_IIII) (x2 : L_IIIII) (x1 : L_III) (x0 : L_II) (x4 x5 x6 x7 : Int) : Option (L_ILIIEI × L_ILIIEI × L_ILIIEI × L_ILIIEI) :=
  iterC (b54_1 x3 x2 x1 x0) 1000000000 (0, [])
def T54 := qT1 qu2 true r54
attribute [go_sem] T54
def tb54 : Fns := lk []
theorem tb54_ok : FnsOk Tryd.prog tb54 := FnsOk.nil
section
attribute [local go_sem] Tryd.results54
theorem f54 : FnFact Tryd.prog 54 T54.sp := by
  refine valid_m ty_ok tb54_ok Tryd.func54 rfl Tryd.ntmps54 fun ⟨x3, x2, x1, x0, x4, x5, x6, x7⟩ r hr => ⟨nL rfl, fun stop S => ?_⟩
  replace hr : r54 x3 x2 x1 x0 x4 x5 x6 x7 = some r := hr
  unfold r54 at hr
  refine S.gx [] ?_
  refine gr ?_
  refine S.own0b 3 0 2000300 3 rfl rfl (nL rfl) rfl ?_
  refine S.sees [1, 2, 3, 13, 14, 15] [(1, 1), (2, 2), (3, 3)] [(2000300, 2000300)] ?_ (Stop.iter S (fun s1 => ⟨[(1, .c (.ref 1 0)), (2, .c (.ref 2 0)), (3, .c (.ref 3 0)), (13, .c (.d (encF 4 d_IIII x3))), (14, .c (.d (.int .i64 (x3.length : Int)))), (15, .c (.d (.int .i64 s1.1)))], [(1, [.d (encF 4 d_IIII x3), .d (encF 5 d_IIIII x2), .d (encF 3 d_III x1), .d (encF 2 d_II x0), .d (.int .i64 x4), .d (.int .i64 x5), .d (.int .i64 x6), .d (.int .i64 x7)]), (2, [.nils, .nils, .nils, .nils]), (3, [.own 2000300, .nils, .nils, .nils])], [(2000300, .owned (encF 3 d_ILIIEI s1.2))]⟩) (b54_1 x3 x2 x1 x0) (fun q => q = r) hr rfl ?_)
  · exact lf
  · intro s1 hr
    unfold b54_1 at hr
    refine S.gx [] ?_
    refine gr ?_
    refine iW1 hr (fun hc hr => D1 (S.ss [1, 2, 3, 13, 14, 15] [(1, 1), (2, 2), (3, 3)] [(30, 2000300)]) hr) fun hc hr => ?_
    refine gr ?_
    have hr := of_out0 hr
    refine gr ?_
    refine S.own0b 3 1 2000301 3 rfl rfl (nL rfl) rfl ?_
    refine S.sees [1, 2, 3, 34, 35, 36] [(1, 1), (2, 2), (3, 3)] [(2000301, 2000301), (2000300, 2000300)] ?_ (Stop.iter S (fun s2 => ⟨[(1, .c (.ref 1 0)), (2, .c (.ref 2 0)), (3, .c (.ref 3 0)), (34, .c (.d (encF 5 d_IIIII x2))), (35, .c (.d (.int .i64 (x2.length : Int)))), (36, .c (.d (.int .i64 s2.1)))], [(1, [.d (encF 4 d_IIII x3), .d (encF 5 d_IIIII x2), .d (encF 3 d_III x1), .d (encF 2 d_II x0), .d (.int .i64 x4), .d (.int .i64 x5), .d (.int .i64 x6), .d (.int .i64 x7)]), (2, [.nils, .nils, .nils, .nils]), (3, [.own 2000300, .own 2000301, .nils, .nils])], [(2000301, .owned (encF 3 d_ILIIEI s2.2)), (2000300, .owned (encF 3 d_ILIIEI s1.2))]⟩) (b54_2 x2 x1 x0 s1) (fun q => q = r) hr rfl ?_)
    · exact lf
    · intro s2 hr
      unfold b54_2 at hr
      refine S.gx [] ?_
      refine gr ?_
      refine iW1 hr (fun hc hr => D1 (S.ss [1, 2, 3, 34, 35, 36] [(1, 1), (2, 2), (3, 3)] [(51, 2000301), (2000300, 2000300)]) hr) fun hc hr => ?_
      refine gr ?_
      have hr := of_out0 hr
      refine gr ?_
      refine S.own0b 3 2 2000302 3 rfl rfl (nL rfl) rfl ?_
      refine S.sees [1, 2, 3, 55, 56, 57] [(1, 1), (2, 2), (3, 3)] [(2000302, 2000302), (2000300, 2000300), (2000301, 2000301)] ?_ (Stop.iter S (fun s3 => ⟨[(1, .c (.ref 1 0)), (2, .c (.ref 2 0)), (3, .c (.ref 3 0)), (55, .c (.d (encF 3 d_III x1))), (56, .c (.d (.int .i64 (x1.length : Int)))), (57, .c (.d (.int .i64 s3.1)))], [(1, [.d (encF 4 d_IIII x3), .d (encF 5 d_IIIII x2), .d (encF 3 d_III x1), .d (encF 2 d_II x0), .d (.int .i64 x4), .d (.int .i64 x5), .d (.int .i64 x6), .d (.int .i64 x7)]), (2, [.nils, .nils, .nils, .nils]), (3, [.own 2000300, .own 2000301, .own 2000302, .nils])], [(2000302, .owned (encF 3 d_ILIIEI s3.2)), (2000300, .owned (encF 3 d_ILIIEI s1.2)), (2000301, .owned (encF 3 d_ILIIEI s2.2))]⟩) (b54_3 x1 x0 s1 s2) (fun q => q = r) hr rfl ?_)
      · exact lf
      · intro s3 hr
        unfold b54_3 at hr
        refine S.gx [] ?_
        refine gr ?_
        refine iW1 hr (fun hc hr => D1 (S.ss [1, 2, 3, 55, 56, 57] [(1, 1), (2, 2), (3, 3)] [(70, 2000302), (2000300, 2000300), (2000301, 2000301)]) hr) fun hc hr => ?_
        refine gr ?_
        have hr := of_out0 hr
        refine gr ?_
        refine S.own0b 3 3 2000303 3 rfl rfl (nL rfl) rfl ?_
        refine S.sees [2, 3, 74, 75, 76] [(2, 2), (3, 3)] [(2000303, 2000303), (2000300, 2000300), (2000301, 2000301), (2000302, 2000302)] ?_ (Stop.iter S (fun s4 => ⟨[(2, .c (.ref 2 0)), (3, .c (.ref 3 0)), (74, .c (.d (encF 2 d_II x0))), (75, .c (.d (.int .i64 (x0.length : Int)))), (76, .c (.d (.int .i64 s4.1)))], [(2, [.nils, .nils, .nils, .nils]), (3, [.own 2000300, .own 2000301, .own 2000302, .own 2000303])], [(2000303, .owned (encF 3 d_ILIIEI s4.2)), (2000300, .owned (encF 3 d_ILIIEI s1.2)), (2000301, .owned (encF 3 d_ILIIEI s2.2)), (2000302, .owned (encF 3 d_ILIIEI s3.2))]⟩) (b54_4 x0 s1 s2 s3) (fun q => q = r) hr rfl ?_)
        · exact lf
        · intro s4 hr
          unfold b54_4 at hr
          refine S.gx [] ?_
          exact D1 (S.ss [2, 3, 74, 75, 76] [(2, 2), (3, 3)] [(88, 2000303), (2000300, 2000300), (2000301, 2000301), (2000302, 2000302)]) hr
end

/- martensite/steel.within -/
def r21 (a0 a1 a2 : Int) : Option (Bool) :=
  some ((decide (a1 ≤ a0)) && (decide (a0 ≤ a2)))
def T21 := qT2 qu3 false r21
attribute [go_sem] T21
def tb21 : Fns := lk []
theorem tb21_ok : FnsOk Tryd.prog tb21 := FnsOk.nil
section
attribute [local go_sem] Tryd.results21
theorem f21 : FnFact Tryd.prog 21 T21.sp := by
  refine valid_m ty_ok tb21_ok Tryd.func21 rfl Tryd.ntmps21 fun ⟨a0, a1, a2⟩ r hr => ⟨nL rfl, fun stop S => ?_⟩
  replace hr : r21 a0 a1 a2 = some r := hr
  unfold r21 at hr
  refine S.gx [] ?_
  repeat (first | refine gA ?_ | refine gB ?_)
  exact D0 hr
end

/- martensite/steel.isShare -/
def r46 (a0 : Int) : Option (Bool) :=
  (r21 a0 0 1000000).bind fun v1 =>
   some v1
def T46 := qT3 qu3 false r46
attribute [go_sem] T46
def tb46 : Fns := lk [(21, T21.sp)]
theorem tb46_ok : FnsOk Tryd.prog tb46 := .cons f21 .nil
theorem tk46 : tb46 21 = some T21.sp := rfl
section
attribute [local go_sem] tk46 Tryd.results46
theorem f46 : FnFact Tryd.prog 46 T46.sp := by
  refine valid_m ty_ok tb46_ok Tryd.func46 rfl Tryd.ntmps46 fun a0 r hr => ⟨nL rfl, fun stop S => ?_⟩
  replace hr : r46 a0 = some r := hr
  unfold r46 at hr
  refine S.gx [] ?_
  exact D0 hr
end

/- martensite/steel.knotErr$1 -/
def r66 (x1 x0 : Int) : Option (Bool) :=
  (r46 x1).bind fun v1 =>
   if (!(!v1)) = true → (r46 x0).isSome = true then
    some ((!v1) || (!((r46 x0).getD default)))
    else none
def T66 := qT4 qu3 false r66
attribute [go_sem] T66
def tb66 : Fns := lk [(46, T46.sp)]
theorem tb66_ok : FnsOk Tryd.prog tb66 := .cons f46 .nil
theorem tk66 : tb66 46 = some T46.sp := rfl
section
attribute [local go_sem] tk66 Tryd.results66
theorem f66 : FnFact Tryd.prog 66 T66.sp := by
  refine valid_m ty_ok tb66_ok Tryd.func66 rfl Tryd.ntmps66 fun ⟨x1, x0⟩ r hr => ⟨nL rfl, fun stop S => ?_⟩
  replace hr : r66 x1 x0 = some r := hr
  unfold r66 at hr
  refine S.gx [] ?_
  obtain ⟨v1, hv1, hr⟩ := of_bind0 hr
  obtain ⟨hg2, hr⟩ := of_guard0 hr
  try simp only [hv1, oG, oI, true_and, and_assoc]
  repeat (first | refine gG hg2 ?_ | refine gA ?_ | refine gB ?_)
  exact D0 hr
end

/- martensite/steel.knotErr$2 -/
def r67 (x0 x1 : Int) : Option (Bool) :=
  some (decide (x0 > x1))
def T67 := qT4 qu3 false r67
attribute [go_sem] T67
def tb67 : Fns := lk []
theorem tb67_ok : FnsOk Tryd.prog tb67 := FnsOk.nil
section
attribute [local go_sem] Tryd.results67
theorem f67 : FnFact Tryd.prog 67 T67.sp := by
  refine valid_m ty_ok tb67_ok Tryd.func67 rfl Tryd.ntmps67 fun ⟨x0, x1⟩ r hr => ⟨nL rfl, fun stop S => ?_⟩
  replace hr : r67 x0 x1 = some r := hr
  unfold r67 at hr
  refine S.gx [] ?_
  exact D0 hr
end

/- martensite/steel.isKelvin -/
def r44 (a0 : Int) : Option (Bool) :=
  (r21 a0 1 3000).bind fun v1 =>
   some v1
def T44 := qT3 qu3 false r44
attribute [go_sem] T44
def tb44 : Fns := lk [(21, T21.sp)]
theorem tb44_ok : FnsOk Tryd.prog tb44 := .cons f21 .nil
theorem tk44 : tb44 21 = some T21.sp := rfl
section
attribute [local go_sem] tk44 Tryd.results44
theorem f44 : FnFact Tryd.prog 44 T44.sp := by
  refine valid_m ty_ok tb44_ok Tryd.func44 rfl Tryd.ntmps44 fun a0 r hr => ⟨nL rfl, fun stop S => ?_⟩
  replace hr : r44 a0 = some r := hr
  unfold r44 at hr
  refine S.gx [] ?_
  exact D0 hr
end

/- martensite/steel.unless -/
def r19 (a0 : Bool) (a1 : Int) : Option (Int) :=
  if a0 = true then
   some 0
   else some a1
def T19 := qT5 qu4 false r19
attribute [go_sem] T19
def tb19 : Fns := lk []
theorem tb19_ok : FnsOk Tryd.prog tb19 := FnsOk.nil
section
attribute [local go_sem] Tryd.results19
theorem f19 : FnFact Tryd.prog 19 T19.sp := by
  refine valid_m ty_ok tb19_ok Tryd.func19 rfl Tryd.ntmps19 fun ⟨a0, a1⟩ r hr => ⟨nL rfl, fun stop S => ?_⟩
  replace hr : r19 a0 a1 = some r := hr
  unfold r19 at hr
  refine S.gx [] ?_
  exact D0 hr
end

/- martensite/steel.first -/
def b17_1 (a0 : L_I) : Bd Int Int := fun s1 =>
  if (decide (s1 < (a0.length : Int))) = true then
   if 0 ≤ s1 ∧ s1 < (a0.length : Int) then
    if ((a0.getD s1.toNat default) != 0) = true then
     .out (some (a0.getD s1.toNat default))
     else .next (IntKind.i64.wrap (s1 + 1))
    else .out none
   else .out (some 0)
def r17 (a0 : L_I) : Option (Int) :=
  iterC (b17_1 a0) 1000000000 0
def T17 := qT6 qu4 false r17
attribute [go_sem] T17
def tb17 : Fns := lk []
theorem tb17_ok : FnsOk Tryd.prog tb17 := FnsOk.nil
section
attribute [local go_sem] Tryd.results17
theorem f17 : FnFact Tryd.prog 17 T17.sp := by
  refine valid_m ty_ok tb17_ok Tryd.func17 rfl Tryd.ntmps17 fun a0 r hr => ⟨nL rfl, fun stop S => ?_⟩
  replace hr : r17 a0 = some r := hr
  unfold r17 at hr
  refine S.gx [] ?_
  refine gr ?_
  refine S.sees [5, 6, 7] [] [] ?_ (Stop.iter S (fun s1 => ⟨[(5, .c (.d (encF 1 d_I a0))), (6, .c (.d (.int .i64 (a0.length : Int)))), (7, .c (.d (.int .i64 s1)))], [], []⟩) (b17_1 a0) (fun q => q = r) hr rfl ?_)
  · exact lf
  · intro s1 hr
    unfold b17_1 at hr
    refine S.gx [] ?_
    exact D1 (S.ss [5, 6, 7] [] []) hr
end

/- martensite/steel.knotErr -/
def b55_2 (x1 : Int) (x0 : L_II) (x2 : Int) (a1 : Option (Int × L_II × Int)) (a2 s1 : Int) : Bd Int Int := fun s2 =>
  if (decide (s2 < (x0.length : Int))) = true then
   if 0 ≤ s2 ∧ s2 < (x0.length : Int) then
    bindC (r67 ((x0.getD s2.toNat default).1) ((x0.getD s2.toNat default).2)) fun v2 =>
     if v2 = true then
      .out ((r44 x1).bind fun v3 =>
       if (v3 && (!(decide (s1 ≥ 0)))) = true → (r46 x2).isSome = true then
        (r19 ((v3 && (!(decide (s1 ≥ 0)))) && ((r46 x2).getD default)) 2).bind fun v4 =>
         (r19 (!(decide (s2 ≥ 0))) 3).bind fun v5 =>
          (r17 [v4, v5]).bind fun v6 =>
           if ((v6 != 0) || (!a1.isSome)) = true then
            some v6
            else if a1.isSome = true then
             if a1.isSome = true then
              if (a2 != 0) = true then
               if 0 ≤ 0 ∧ 0 < (x0.length : Int) then
                if a1.isSome = true then
                 if a1.isSome = true then
                  if 0 ≤ 0 ∧ 0 < (((a1.getD default).2.1).length : Int) then
                   (r19 (((decide (x1 > ((a1.getD default).1))) && (decide ((IntKind.i64.wrap (a2 * ((x0.getD 0 default).1))) ≥ (IntKind.i64.wrap (a2 * ((((a1.getD default).2.1).getD 0 default).1)))))) && (decide ((IntKind.i64.wrap (a2 * ((x0.getD 0 default).2))) ≥ (IntKind.i64.wrap (a2 * ((((a1.getD default).2.1).getD 0 default).2)))))) 9).bind fun v7 =>
                    some v7
                   else none
                  else none
                 else none
                else none
               else (r19 (decide (x1 > ((a1.getD default).1))) 9).bind fun v12 =>
                some v12
              else none
             else none
        else none)
      else .next (IntKind.i64.wrap (s2 + 1))
    else .out none
   else .out ((r44 x1).bind fun v17 =>
    if (v17 && (!(decide (s1 ≥ 0)))) = true → (r46 x2).isSome = true then
     (r19 ((v17 && (!(decide (s1 ≥ 0)))) && ((r46 x2).getD default)) 2).bind fun v18 =>
      (r19 (!(decide ((-1) ≥ 0))) 3).bind fun v19 =>
       (r17 [v18, v19]).bind fun v20 =>
        if ((v20 != 0) || (!a1.isSome)) = true then
         some v20
         else if a1.isSome = true then
          if a1.isSome = true then
           if (a2 != 0) = true then
            if 0 ≤ 0 ∧ 0 < (x0.length : Int) then
             if a1.isSome = true then
              if a1.isSome = true then
               if 0 ≤ 0 ∧ 0 < (((a1.getD default).2.1).length : Int) then
                (r19 (((decide (x1 > ((a1.getD default).1))) && (decide ((IntKind.i64.wrap (a2 * ((x0.getD 0 default).1))) ≥ (IntKind.i64.wrap (a2 * ((((a1.getD default).2.1).getD 0 default).1)))))) && (decide ((IntKind.i64.wrap (a2 * ((x0.getD 0 default).2))) ≥ (IntKind.i64.wrap (a2 * ((((a1.getD default).2.1).getD 0 default).2)))))) 9).bind fun v21 =>
                 some v21
                else none
               else none
              else none
             else none
            else (r19 (decide (x1 > ((a1.getD default).1))) 9).bind fun v26 =>
             some v26
           else none
          else none
     else none)
def b55_3 (x1 : Int) (x0 : L_II) (x2 : Int) (a1 : Option (Int × L_II × Int)) (a2 : Int) : Bd Int Int := fun s3 =>
  if (decide (s3 < (x0.length : Int))) = true then
   if 0 ≤ s3 ∧ s3 < (x0.length : Int) then
    bindC (r67 ((x0.getD s3.toNat default).1) ((x0.getD s3.toNat default).2)) fun v31 =>
     if v31 = true then
      .out ((r44 x1).bind fun v32 =>
       if (v32 && (!(decide ((-1) ≥ 0)))) = true → (r46 x2).isSome = true then
        (r19 ((v32 && (!(decide ((-1) ≥ 0)))) && ((r46 x2).getD default)) 2).bind fun v33 =>
         (r19 (!(decide (s3 ≥ 0))) 3).bind fun v34 =>
          (r17 [v33, v34]).bind fun v35 =>
           if ((v35 != 0) || (!a1.isSome)) = true then
            some v35
            else if a1.isSome = true then
             if a1.isSome = true then
              if (a2 != 0) = true then
               if 0 ≤ 0 ∧ 0 < (x0.length : Int) then
                if a1.isSome = true then
                 if a1.isSome = true then
                  if 0 ≤ 0 ∧ 0 < (((a1.getD default).2.1).length : Int) then
                   (r19 (((decide (x1 > ((a1.getD default).1))) && (decide ((IntKind.i64.wrap (a2 * ((x0.getD 0 default).1))) ≥ (IntKind.i64.wrap (a2 * ((((a1.getD default).2.1).getD 0 default).1)))))) && (decide ((IntKind.i64.wrap (a2 * ((x0.getD 0 default).2))) ≥ (IntKind.i64.wrap (a2 * ((((a1.getD default).2.1).getD 0 default).2)))))) 9).bind fun v36 =>
                    some v36
                   else none
                  else none
                 else none
                else none
               else (r19 (decide (x1 > ((a1.getD default).1))) 9).bind fun v41 =>
                some v41
              else none
             else none
        else none)
      else .next (IntKind.i64.wrap (s3 + 1))
    else .out none
   else .out ((r44 x1).bind fun v46 =>
    if (v46 && (!(decide ((-1) ≥ 0)))) = true → (r46 x2).isSome = true then
     (r19 ((v46 && (!(decide ((-1) ≥ 0)))) && ((r46 x2).getD default)) 2).bind fun v47 =>
      (r19 (!(decide ((-1) ≥ 0))) 3).bind fun v48 =>
       (r17 [v47, v48]).bind fun v49 =>
        if ((v49 != 0) || (!a1.isSome)) = true then
         some v49
         else if a1.isSome = true then
          if a1.isSome = true then
           if (a2 != 0) = true then
            if 0 ≤ 0 ∧ 0 < (x0.length : Int) then
             if a1.isSome = true then
              if a1.isSome = true then
               if 0 ≤ 0 ∧ 0 < (((a1.getD default).2.1).length : Int) then
                (r19 (((decide (x1 > ((a1.getD default).1))) && (decide ((IntKind.i64.wrap (a2 * ((x0.getD 0 default).1))) ≥ (IntKind.i64.wrap (a2 * ((((a1.getD default).2.1).getD 0 default).1)))))) && (decide ((IntKind.i64.wrap (a2 * ((x0.getD 0 default).2))) ≥ (IntKind.i64.wrap (a2 * ((((a1.getD default).2.1).getD 0 default).2)))))) 9).bind fun v50 =>
                 some v50
                else none
               else none
              else none
             else none
            else (r19 (decide (x1 > ((a1.getD default).1))) 9).bind fun v55 =>
             some v55
           else none
          else none
     else none)
def b55_1 (x1 : Int) (x0 : L_II) (x2 : Int) (a1 : Option (Int × L_II × Int)) (a2 : Int) : Bd Int Int := fun s1 =>
  if (decide (s1 < (x0.length : Int))) = true then
   if 0 ≤ s1 ∧ s1 < (x0.length : Int) then
    bindC (r66 ((x0.getD s1.toNat default).1) ((x0.getD s1.toNat default).2)) fun v1 =>
     if v1 = true then
      .out (iterC (b55_2 x1 x0 x2 a1 a2 s1) 1000000000 0)
      else .next (IntKind.i64.wrap (s1 + 1))
    else .out none
   else .out (iterC (b55_3 x1 x0 x2 a1 a2) 1000000000 0)
def r55 (x1 : Int) (x0 : L_II) (x2 : Int) (a1 : Option (Int × L_II × Int)) (a2 : Int) : Option (Int) :=
  iterC (b55_1 x1 x0 x2 a1 a2) 1000000000 0
def T55 := qT7 qu4 false r55
attribute [go_sem] T55
def tb55 : Fns := lk [(17, T17.sp), (19, T19.sp), (44, T44.sp), (46, T46.sp), (66, T66.sp), (67, T67.sp)]
theorem tb55_ok : FnsOk Tryd.prog tb55 := .cons f17 (.cons f19 (.cons f44 (.cons f46 (.cons f66 (.cons f67 .nil)))))
theorem tk55 : tb55 17 = some T17.sp ∧ tb55 19 = some T19.sp ∧ tb55 44 = some T44.sp ∧ tb55 46 = some T46.sp ∧ tb55 66 = some T66.sp ∧ tb55 67 = some T67.sp := ⟨rfl, rfl, rfl, rfl, rfl, rfl⟩
section
attribute [local go_sem] tk55 Tryd.results55 Tryd.results40 Tryd.results65
theorem f55 : FnFact Tryd.prog 55 T55.sp := by
  refine valid_m ty_ok tb55_ok Tryd.func55 rfl Tryd.ntmps55 fun ⟨x1, x0, x2, a1, a2⟩ r hr => ⟨nL rfl, fun stop S => ?_⟩
  replace hr : r55 x1 x0 x2 a1 a2 = some r := hr
  unfold r55 at hr
  refine S.gx [1, 2, 5, 7, 10] ?_
  refine gr ?_
  refine S.inl 2 [1, 2, 3] [] Tryd.func65 (by decide) rfl Tryd.ntmps65 (fun cx e => drawn_ok ty_ok tb55_ok cx e) (some 15) rfl rfl rfl rfl (nL rfl) (nL rfl) ?_
  refine gs ?_
  refine gr ?_
  intro stop1 S1
  refine S1.gx [1] ?_
  refine gr ?_
  refine S1.inl 2 [4] [] Tryd.func40 (by decide) rfl Tryd.ntmps40 (fun cx e => drawn_ok ty_ok tb55_ok cx e) (some 7) rfl rfl rfl rfl (nL rfl) (nL rfl) ?_
  refine gs ?_
  refine gr ?_
  intro stop2 S2
  refine S2.gx [4] ?_
  refine gr ?_
  refine S2.sees [0, 1, 7, 8] [(3, 3)] [] ?_ (Stop.iter S2 (fun s1 => ⟨[(0, .c (.d (encF 2 d_II x0))), (1, .c (.clo 66 [])), (7, .c (.d (.int .i64 (x0.length : Int)))), (8, .c (.d (.int .i64 s1)))], [(3, [.d (.int .i64 x1), .d (encF 2 d_II x0), .d (.int .i64 x2)])], []⟩) (b55_1 x1 x0 x2 a1 a2) (fun q => q = r) hr rfl ?_)
  · exact lf
  · intro s1 hr
    unfold b55_1 at hr
    refine S2.gx [4] ?_
    refine gr ?_
    refine iW1 hr (fun hc hr => ?_) fun hc hr => ?_
    · refine gr ?_
      refine S2.gx [] ?_
      obtain ⟨hg30, hr⟩ := of_guard1 hr
      obtain ⟨v1, hv1, hr⟩ := of_bind1 hr
      refine gb hv1 ?_
      refine gr ?_
      refine iW1 hr (fun hc hr => ?_) fun hc hr => D1 (S2.ss [0, 1, 7, 8] [(3, 3)] []) hr
      refine gr ?_
      have hr := of_out0 hr
      refine gr ?_
      refine S1.gx [1] ?_
      refine gr ?_
      refine gr ?_
      refine S.gx [1, 2, 5, 7, 10] ?_
      refine gr ?_
      refine S.inl 2 [1, 2, 3, 7] [] Tryd.func65 (by decide) rfl Tryd.ntmps65 (fun cx e => drawn_ok ty_ok tb55_ok cx e) (some 18) rfl rfl rfl rfl (nL rfl) (nL rfl) ?_
      refine gs ?_
      refine gr ?_
      intro stop1 S1
      refine S1.gx [1] ?_
      refine gr ?_
      refine S1.inl 2 [4] [] Tryd.func40 (by decide) rfl Tryd.ntmps40 (fun cx e => drawn_ok ty_ok tb55_ok cx e) (some 7) rfl rfl rfl rfl (nL rfl) (nL rfl) ?_
      refine gs ?_
      refine gr ?_
      intro stop2 S2
      refine S2.gx [4] ?_
      refine gr ?_
      refine S2.sees [0, 1, 7, 8] [(3, 3)] [] ?_ (Stop.iter S2 (fun s2 => ⟨[(0, .c (.d (encF 2 d_II x0))), (1, .c (.clo 67 [])), (7, .c (.d (.int .i64 (x0.length : Int)))), (8, .c (.d (.int .i64 s2)))], [(3, [.d (.int .i64 x1), .d (encF 2 d_II x0), .d (.int .i64 x2)])], []⟩) (b55_2 x1 x0 x2 a1 a2 s1) (fun q => q = r) hr rfl ?_)
      · exact lf
      · intro s2 hr
        unfold b55_2 at hr
        refine S2.gx [4] ?_
        refine gr ?_
        refine iW1 hr (fun hc hr => ?_) fun hc hr => ?_
        · refine gr ?_
          refine S2.gx [] ?_
          obtain ⟨hg16, hr⟩ := of_guard1 hr
          obtain ⟨v2, hv2, hr⟩ := of_bind1 hr
          refine gb hv2 ?_
          refine gr ?_
          refine iW1 hr (fun hc hr => ?_) fun hc hr => D1 (S2.ss [0, 1, 7, 8] [(3, 3)] []) hr
          refine gr ?_
          have hr := of_out0 hr
          refine gr ?_
          refine S1.gx [1] ?_
          refine gr ?_
          refine gr ?_
          refine S.gx [1, 2, 5, 7, 10] ?_
          obtain ⟨v3, hv3, hr⟩ := of_bind0 hr
          obtain ⟨hg15, hr⟩ := of_guard0 hr
          obtain ⟨v4, hv4, hr⟩ := of_bind0 hr
          obtain ⟨v5, hv5, hr⟩ := of_bind0 hr
          obtain ⟨v6, hv6, hr⟩ := of_bind0 hr
          try simp only [hv3, hv4, hv5, hv6, Option.getD_some, Option.isSome_some, true_and, and_assoc]
          repeat (first | refine gG hg15 ?_ | refine gA ?_ | refine gB ?_)
          refine iW hr (fun hc hr => ?_) fun hc hr => ?_
          · refine gr ?_
            refine S.prune [9] ?_
            refine S.gx [1, 2, 7, 10] ?_
            exact D0 hr
          · obtain ⟨hg13, hr⟩ := of_guard0 hr
            obtain ⟨hg14, hr⟩ := of_guard0 hr
            refine gr ?_
            refine S.prune [1, 2, 3, 10] ?_
            refine S.gx [1, 2, 5, 10] ?_
            refine gr ?_
            refine gr ?_
            refine iW hr (fun hc hr => ?_) fun hc hr => ?_
            · obtain ⟨hg8, hr⟩ := of_guard0 hr
              obtain ⟨hg9, hr⟩ := of_guard0 hr
              obtain ⟨hg10, hr⟩ := of_guard0 hr
              obtain ⟨hg11, hr⟩ := of_guard0 hr
              repeat (first | refine gA ?_ | refine gB ?_)
              refine S.prune [10] ?_
              refine S.gx [1, 2, 5, 7] ?_
              exact D0 hr
            · refine gr ?_
              refine S.prune [10] ?_
              refine S.gx [1, 2, 5, 7] ?_
              exact D0 hr
        · refine gr ?_
          have hr := of_out0 hr
          refine gr ?_
          refine gr ?_
          refine S1.gx [1] ?_
          refine gr ?_
          refine gr ?_
          refine S.gx [1, 2, 5, 7, 10] ?_
          obtain ⟨v17, hv17, hr⟩ := of_bind0 hr
          obtain ⟨hg29, hr⟩ := of_guard0 hr
          obtain ⟨v18, hv18, hr⟩ := of_bind0 hr
          obtain ⟨v19, hv19, hr⟩ := of_bind0 hr
          obtain ⟨v20, hv20, hr⟩ := of_bind0 hr
          try simp only [hv17, hv18, hv19, hv20, Option.getD_some, Option.isSome_some, true_and, and_assoc]
          repeat (first | refine gG hg29 ?_ | refine gA ?_ | refine gB ?_)
          refine iW hr (fun hc hr => ?_) fun hc hr => ?_
          · refine gr ?_
            refine S.prune [9] ?_
            refine S.gx [1, 2, 7, 10] ?_
            exact D0 hr
          · obtain ⟨hg27, hr⟩ := of_guard0 hr
            obtain ⟨hg28, hr⟩ := of_guard0 hr
            refine gr ?_
            refine S.prune [1, 2, 3, 10] ?_
            refine S.gx [1, 2, 5, 10] ?_
            refine gr ?_
            refine gr ?_
            refine iW hr (fun hc hr => ?_) fun hc hr => ?_
            · obtain ⟨hg22, hr⟩ := of_guard0 hr
              obtain ⟨hg23, hr⟩ := of_guard0 hr
              obtain ⟨hg24, hr⟩ := of_guard0 hr
              obtain ⟨hg25, hr⟩ := of_guard0 hr
              repeat (first | refine gA ?_ | refine gB ?_)
              refine S.prune [10] ?_
              refine S.gx [1, 2, 5, 7] ?_
              exact D0 hr
            · refine gr ?_
              refine S.prune [10] ?_
              refine S.gx [1, 2, 5, 7] ?_
              exact D0 hr
    · refine gr ?_
      have hr := of_out0 hr
      refine gr ?_
      refine gr ?_
      refine S1.gx [1] ?_
      refine gr ?_
      refine gr ?_
      refine S.gx [1, 2, 5, 7, 10] ?_
      refine gr ?_
      refine S.inl 2 [1, 2, 3, 7] [] Tryd.func65 (by decide) rfl Tryd.ntmps65 (fun cx e => drawn_ok ty_ok tb55_ok cx e) (some 18) rfl rfl rfl rfl (nL rfl) (nL rfl) ?_
      refine gs ?_
      refine gr ?_
      intro stop1 S1
      refine S1.gx [1] ?_
      refine gr ?_
      refine S1.inl 2 [4] [] Tryd.func40 (by decide) rfl Tryd.ntmps40 (fun cx e => drawn_ok ty_ok tb55_ok cx e) (some 7) rfl rfl rfl rfl (nL rfl) (nL rfl) ?_
      refine gs ?_
      refine gr ?_
      intro stop2 S2
      refine S2.gx [4] ?_
      refine gr ?_
      refine S2.sees [0, 1, 7, 8] [(3, 3)] [] ?_ (Stop.iter S2 (fun s3 => ⟨[(0, .c (.d (encF 2 d_II x0))), (1, .c (.clo 67 [])), (7, .c (.d (.int .i64 (x0.length : Int)))), (8, .c (.d (.int .i64 s3)))], [(3, [.d (.int .i64 x1), .d (encF 2 d_II x0), .d (.int .i64 x2)])], []⟩) (b55_3 x1 x0 x2 a1 a2) (fun q => q = r) hr rfl ?_)
      · exact lf
      · intro s3 hr
        unfold b55_3 at hr
        refine S2.gx [4] ?_
        refine gr ?_
        refine iW1 hr (fun hc hr => ?_) fun hc hr => ?_
        · refine gr ?_
          refine S2.gx [] ?_
          obtain ⟨hg45, hr⟩ := of_guard1 hr
          obtain ⟨v31, hv31, hr⟩ := of_bind1 hr
          refine gb hv31 ?_
          refine gr ?_
          refine iW1 hr (fun hc hr => ?_) fun hc hr => D1 (S2.ss [0, 1, 7, 8] [(3, 3)] []) hr
          refine gr ?_
          have hr := of_out0 hr
          refine gr ?_
          refine S1.gx [1] ?_
          refine gr ?_
          refine gr ?_
          refine S.gx [1, 2, 5, 7, 10] ?_
          obtain ⟨v32, hv32, hr⟩ := of_bind0 hr
          obtain ⟨hg44, hr⟩ := of_guard0 hr
          obtain ⟨v33, hv33, hr⟩ := of_bind0 hr
          obtain ⟨v34, hv34, hr⟩ := of_bind0 hr
          obtain ⟨v35, hv35, hr⟩ := of_bind0 hr
          try simp only [hv32, hv33, hv34, hv35, Option.getD_some, Option.isSome_some, true_and, and_assoc]
          repeat (first | refine gG hg44 ?_ | refine gA ?_ | refine gB ?_)
          refine iW hr (fun hc hr => ?_) fun hc hr => ?_
          · refine gr ?_
            refine S.prune [9] ?_
            refine S.gx [1, 2, 7, 10] ?_
            exact D0 hr
          · obtain ⟨hg42, hr⟩ := of_guard0 hr
            obtain ⟨hg43, hr⟩ := of_guard0 hr
            refine gr ?_
            refine S.prune [1, 2, 3, 10] ?_
            refine S.gx [1, 2, 5, 10] ?_
            refine gr ?_
            refine gr ?_
            refine iW hr (fun hc hr => ?_) fun hc hr => ?_
            · obtain ⟨hg37, hr⟩ := of_guard0 hr
              obtain ⟨hg38, hr⟩ := of_guard0 hr
              obtain ⟨hg39, hr⟩ := of_guard0 hr
              obtain ⟨hg40, hr⟩ := of_guard0 hr
              repeat (first | refine gA ?_ | refine gB ?_)
              refine S.prune [10] ?_
              refine S.gx [1, 2, 5, 7] ?_
              exact D0 hr
            · refine gr ?_
              refine S.prune [10] ?_
              refine S.gx [1, 2, 5, 7] ?_
              exact D0 hr
        · refine gr ?_
          have hr := of_out0 hr
          refine gr ?_
          refine gr ?_
          refine S1.gx [1] ?_
          refine gr ?_
          refine gr ?_
          refine S.gx [1, 2, 5, 7, 10] ?_
          obtain ⟨v46, hv46, hr⟩ := of_bind0 hr
          obtain ⟨hg58, hr⟩ := of_guard0 hr
          obtain ⟨v47, hv47, hr⟩ := of_bind0 hr
          obtain ⟨v48, hv48, hr⟩ := of_bind0 hr
          obtain ⟨v49, hv49, hr⟩ := of_bind0 hr
          try simp only [hv46, hv47, hv48, hv49, Option.getD_some, Option.isSome_some, true_and, and_assoc]
          repeat (first | refine gG hg58 ?_ | refine gA ?_ | refine gB ?_)
          refine iW hr (fun hc hr => ?_) fun hc hr => ?_
          · refine gr ?_
            refine S.prune [9] ?_
            refine S.gx [1, 2, 7, 10] ?_
            exact D0 hr
          · obtain ⟨hg56, hr⟩ := of_guard0 hr
            obtain ⟨hg57, hr⟩ := of_guard0 hr
            refine gr ?_
            refine S.prune [1, 2, 3, 10] ?_
            refine S.gx [1, 2, 5, 10] ?_
            refine gr ?_
            refine gr ?_
            refine iW hr (fun hc hr => ?_) fun hc hr => ?_
            · obtain ⟨hg51, hr⟩ := of_guard0 hr
              obtain ⟨hg52, hr⟩ := of_guard0 hr
              obtain ⟨hg53, hr⟩ := of_guard0 hr
              obtain ⟨hg54, hr⟩ := of_guard0 hr
              repeat (first | refine gA ?_ | refine gB ?_)
              refine S.prune [10] ?_
              refine S.gx [1, 2, 5, 7] ?_
              exact D0 hr
            · refine gr ?_
              refine S.prune [10] ?_
              refine S.gx [1, 2, 5, 7] ?_
              exact D0 hr
end

/- martensite/steel.CheckRules$1 -/
def r56 (a0 : Int) : Option (Bool) :=
  (r21 a0 0 2000).bind fun v1 =>
   some (!v1)
def T56 := qT3 qu3 false r56
attribute [go_sem] T56
def tb56 : Fns := lk [(21, T21.sp)]
theorem tb56_ok : FnsOk Tryd.prog tb56 := .cons f21 .nil
theorem tk56 : tb56 21 = some T21.sp := rfl
section
attribute [local go_sem] tk56 Tryd.results56
theorem f56 : FnFact Tryd.prog 56 T56.sp := by
  refine valid_m ty_ok tb56_ok Tryd.func56 rfl Tryd.ntmps56 fun a0 r hr => ⟨nL rfl, fun stop S => ?_⟩
  replace hr : r56 a0 = some r := hr
  unfold r56 at hr
  refine S.gx [] ?_
  exact D0 hr
end

/- slices.IndexFunc[[]int,int] -/
def b58_1 (a0 : L_I) : Bd Int Int := fun s1 =>
  if (decide (s1 < (a0.length : Int))) = true then
   if 0 ≤ s1 ∧ s1 < (a0.length : Int) then
    bindC (r56 (a0.getD s1.toNat default)) fun v1 =>
     if v1 = true then
      .out (some s1)
      else .next (IntKind.i64.wrap (s1 + 1))
    else .out none
   else .out (some (-1))
def r58 (a0 : L_I) : Option (Int) :=
  iterC (b58_1 a0) 1000000000 0
def T58 := qT8 qu4 false r58
attribute [go_sem] T58
def tb58 : Fns := lk [(56, T56.sp)]
theorem tb58_ok : FnsOk Tryd.prog tb58 := .cons f56 .nil
theorem tk58 : tb58 56 = some T56.sp := rfl
section
attribute [local go_sem] tk58 Tryd.results58
theorem f58 : FnFact Tryd.prog 58 T58.sp := by
  refine valid_m ty_ok tb58_ok Tryd.func58 rfl Tryd.ntmps58 fun a0 r hr => ⟨nL rfl, fun stop S => ?_⟩
  replace hr : r58 a0 = some r := hr
  unfold r58 at hr
  refine S.gx [] ?_
  refine gr ?_
  refine S.sees [0, 1, 7, 8] [] [] ?_ (Stop.iter S (fun s1 => ⟨[(0, .c (.d (encF 1 d_I a0))), (1, .c (.clo 56 [])), (7, .c (.d (.int .i64 (a0.length : Int)))), (8, .c (.d (.int .i64 s1)))], [], []⟩) (b58_1 a0) (fun q => q = r) hr rfl ?_)
  · exact lf
  · intro s1 hr
    unfold b58_1 at hr
    refine S.gx [] ?_
    exact D1 (S.ss [0, 1, 7, 8] [] []) hr
end

/- slices.ContainsFunc[[]int,int] -/
def r47 (a0 : L_I) : Option (Bool) :=
  (r58 a0).bind fun v1 =>
   some (decide (v1 ≥ 0))
def T47 := qT8 qu3 false r47
attribute [go_sem] T47
def tb47 : Fns := lk [(58, T58.sp)]
theorem tb47_ok : FnsOk Tryd.prog tb47 := .cons f58 .nil
theorem tk47 : tb47 58 = some T58.sp := rfl
section
attribute [local go_sem] tk47 Tryd.results47
theorem f47 : FnFact Tryd.prog 47 T47.sp := by
  refine valid_m ty_ok tb47_ok Tryd.func47 rfl Tryd.ntmps47 fun a0 r hr => ⟨nL rfl, fun stop S => ?_⟩
  replace hr : r47 a0 = some r := hr
  unfold r47 at hr
  refine S.gx [] ?_
  exact D0 hr
end

/- cmp.isNaN[int] -/
def r77 (a0 : Int) : Option (Bool) :=
  some (a0 != a0)
def T77 := qT3 qu3 false r77
attribute [go_sem] T77
def tb77 : Fns := lk []
theorem tb77_ok : FnsOk Tryd.prog tb77 := FnsOk.nil
section
attribute [local go_sem] Tryd.results77
theorem f77 : FnFact Tryd.prog 77 T77.sp := by
  refine valid_m ty_ok tb77_ok Tryd.func77 rfl Tryd.ntmps77 fun a0 r hr => ⟨nL rfl, fun stop S => ?_⟩
  replace hr : r77 a0 = some r := hr
  unfold r77 at hr
  refine S.gx [] ?_
  exact D0 hr
end

/- cmp.Less[int] -/
def r68 (a0 a1 : Int) : Option (Bool) :=
  (r77 a0).bind fun v1 =>
   if v1 = true → (r77 a1).isSome = true then
    some ((v1 && (!((r77 a1).getD default))) || (decide (a0 < a1)))
    else none
def T68 := qT9 qu3 false r68
attribute [go_sem] T68
def tb68 : Fns := lk [(77, T77.sp)]
theorem tb68_ok : FnsOk Tryd.prog tb68 := .cons f77 .nil
theorem tk68 : tb68 77 = some T77.sp := rfl
section
attribute [local go_sem] tk68 Tryd.results68
theorem f68 : FnFact Tryd.prog 68 T68.sp := by
  refine valid_m ty_ok tb68_ok Tryd.func68 rfl Tryd.ntmps68 fun ⟨a0, a1⟩ r hr => ⟨nL rfl, fun stop S => ?_⟩
  replace hr : r68 a0 a1 = some r := hr
  unfold r68 at hr
  refine S.gx [] ?_
  obtain ⟨v1, hv1, hr⟩ := of_bind0 hr
  obtain ⟨hg2, hr⟩ := of_guard0 hr
  try simp only [hv1, oG, oI, true_and, and_assoc]
  repeat (first | refine gG hg2 ?_ | refine gA ?_ | refine gB ?_)
  exact D0 hr
end
end Go.Proofs.YthcpkkpjegldoaaDoor

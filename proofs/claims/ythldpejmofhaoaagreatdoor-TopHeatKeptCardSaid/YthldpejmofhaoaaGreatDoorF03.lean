/- Contracts of functions, written by wip/dec. -/
import Derived.Test.YthldpejmofhaoaaGreatDoorF00
import Derived.Test.YthldpejmofhaoaaGreatDoorF01
import Derived.Test.YthldpejmofhaoaaGreatDoorF02
set_option linter.unusedVariables false
set_option linter.unusedSimpArgs false
set_option maxHeartbeats 4000000
set_option maxRecDepth 20000
namespace Go.Proofs.YthldpejmofhaoaaGreatDoor
open Go.Abs
section
variable {β : Type} [Inhabited β] (u : β → List RV) (al : Bool)
abbrev qF21 (β : Type) := L_I → Int → Int → L_II → L_LIIE → L_II → L_LIIE → β
def qw21 (a0 : L_I) (a1 a2 : Int) (a3 : L_II) (a4 : L_LIIE) (a5 : L_II) (a6 : L_LIIE) : List Arg := [.c (encF 1 d_I a0), .clo 176 [[.int .i64 a1, .int .i64 a2, encF 2 d_II a3, encF 1 d_LIIE a4, encF 2 d_II a5, encF 1 d_LIIE a6]]]
def qd21 (a : List Arg) := (decF g_I (aCell a 0 0), dInt (aCell a 1 0), dInt (aCell a 1 1), decF g_II (aCell a 1 2), decF g_LIIE (aCell a 1 3), decF g_II (aCell a 1 4), decF g_LIIE (aCell a 1 5))
def qp21 {β : Type} (f : qF21 β) (c0 c1 c2 c3 c4 c5 c6 : D) := f (decF g_I c0) (dInt c1) (dInt c2) (decF g_II c3) (decF g_LIIE c4) (decF g_II c5) (decF g_LIIE c6)
abbrev qt21 (c0 c1 c2 c3 c4 c5 c6 : D) : List Arg := [.c c0, .clo 176 [[c1, c2, c3, c4, c5, c6]]]
def qT21 (r : qF21 (Option β)) := mkT (u7 qw21) qd21 (u7 r) u al
theorem qP21 (r : qF21 (Option β)) (c0 c1 c2 c3 c4 c5 c6 : D) : PT (qT21 u al r).sp u (qt21 c0 c1 c2 c3 c4 c5 c6) (qp21 qw21 c0 c1 c2 c3 c4 c5 c6) (qp21 r c0 c1 c2 c3 c4 c5 c6) := ⟨rfl, rfl⟩
theorem qa21 (r : qF21 (Option β)) : (qT21 u al r).sp.alias = al := rfl
attribute [go_sem] qw21 qp21 qt21 qP21 qa21
abbrev qF22 (β : Type) := Int → Int → L_II → L_LIIE → L_II → L_LIIE → L_I → L_I → Int → β
def qw22 (a0 a1 : Int) (a2 : L_II) (a3 : L_LIIE) (a4 : L_II) (a5 : L_LIIE) (a6 a7 : L_I) (a8 : Int) : List Arg := [.agg [.int .i64 a0, .int .i64 a1, encF 2 d_II a2, encF 1 d_LIIE a3, encF 2 d_II a4, encF 1 d_LIIE a5], .c (encF 1 d_I a6), .agg [encF 1 d_I a7, .int .i64 a8]]
def qd22 (a : List Arg) := (dInt (aCell a 0 0), dInt (aCell a 0 1), decF g_II (aCell a 0 2), decF g_LIIE (aCell a 0 3), decF g_II (aCell a 0 4), decF g_LIIE (aCell a 0 5), decF g_I (aCell a 1 0), decF g_I (aCell a 2 0), dInt (aCell a 2 1))
def qp22 {β : Type} (f : qF22 β) (c0 c1 c2 c3 c4 c5 c6 c7 c8 : D) := f (dInt c0) (dInt c1) (decF g_II c2) (decF g_LIIE c3) (decF g_II c4) (decF g_LIIE c5) (decF g_I c6) (decF g_I c7) (dInt c8)
abbrev qt22 (c0 c1 c2 c3 c4 c5 c6 c7 c8 : D) : List Arg := [.agg [c0, c1, c2, c3, c4, c5], .c c6, .agg [c7, c8]]
def qT22 (r : qF22 (Option β)) := mkT (u9 qw22) qd22 (u9 r) u al
theorem qP22 (r : qF22 (Option β)) (c0 c1 c2 c3 c4 c5 c6 c7 c8 : D) : PT (qT22 u al r).sp u (qt22 c0 c1 c2 c3 c4 c5 c6 c7 c8) (qp22 qw22 c0 c1 c2 c3 c4 c5 c6 c7 c8) (qp22 r c0 c1 c2 c3 c4 c5 c6 c7 c8) := ⟨rfl, rfl⟩
theorem qa22 (r : qF22 (Option β)) : (qT22 u al r).sp.alias = al := rfl
attribute [go_sem] qw22 qp22 qt22 qP22 qa22
abbrev qF23 (β : Type) := Int → Int → L_II → L_LIIE → L_I → L_I → Int → β
def qw23 (a0 a1 : Int) (a2 : L_II) (a3 : L_LIIE) (a4 a5 : L_I) (a6 : Int) : List Arg := [.agg [.int .i64 a0, .int .i64 a1, encF 2 d_II a2, encF 1 d_LIIE a3], .c (encF 1 d_I a4), .agg [encF 1 d_I a5, .int .i64 a6]]
def qd23 (a : List Arg) := (dInt (aCell a 0 0), dInt (aCell a 0 1), decF g_II (aCell a 0 2), decF g_LIIE (aCell a 0 3), decF g_I (aCell a 1 0), decF g_I (aCell a 2 0), dInt (aCell a 2 1))
def qp23 {β : Type} (f : qF23 β) (c0 c1 c2 c3 c4 c5 c6 : D) := f (dInt c0) (dInt c1) (decF g_II c2) (decF g_LIIE c3) (decF g_I c4) (decF g_I c5) (dInt c6)
abbrev qt23 (c0 c1 c2 c3 c4 c5 c6 : D) : List Arg := [.agg [c0, c1, c2, c3], .c c4, .agg [c5, c6]]
def qT23 (r : qF23 (Option β)) := mkT (u7 qw23) qd23 (u7 r) u al
theorem qP23 (r : qF23 (Option β)) (c0 c1 c2 c3 c4 c5 c6 : D) : PT (qT23 u al r).sp u (qt23 c0 c1 c2 c3 c4 c5 c6) (qp23 qw23 c0 c1 c2 c3 c4 c5 c6) (qp23 r c0 c1 c2 c3 c4 c5 c6) := ⟨rfl, rfl⟩
theorem qa23 (r : qF23 (Option β)) : (qT23 u al r).sp.alias = al := rfl
attribute [go_sem] qw23 qp23 qt23 qP23 qa23
abbrev qF24 (β : Type) := Int → Int → Int → β
def qw24 (a0 a1 a2 : Int) : List Arg := [.agg [.int .i64 a0, .int .i64 a1, .int .i64 a2]]
def qd24 (a : List Arg) := (dInt (aCell a 0 0), dInt (aCell a 0 1), dInt (aCell a 0 2))
def qp24 {β : Type} (f : qF24 β) (c0 c1 c2 : D) := f (dInt c0) (dInt c1) (dInt c2)
abbrev qt24 (c0 c1 c2 : D) : List Arg := [.agg [c0, c1, c2]]
def qT24 (r : qF24 (Option β)) := mkT (u3 qw24) qd24 (u3 r) u al
theorem qP24 (r : qF24 (Option β)) (c0 c1 c2 : D) : PT (qT24 u al r).sp u (qt24 c0 c1 c2) (qp24 qw24 c0 c1 c2) (qp24 r c0 c1 c2) := ⟨rfl, rfl⟩
theorem qa24 (r : qF24 (Option β)) : (qT24 u al r).sp.alias = al := rfl
attribute [go_sem] qw24 qp24 qt24 qP24 qa24
abbrev qF25 (β : Type) := Int → Int → Int → L_I → β
def qw25 (a0 a1 a2 : Int) (a3 : L_I) : List Arg := [.agg [.int .i64 a0, .int .i64 a1, .int .i64 a2], .c (encF 1 d_I a3)]
def qd25 (a : List Arg) := (dInt (aCell a 0 0), dInt (aCell a 0 1), dInt (aCell a 0 2), decF g_I (aCell a 1 0))
def qp25 {β : Type} (f : qF25 β) (c0 c1 c2 c3 : D) := f (dInt c0) (dInt c1) (dInt c2) (decF g_I c3)
abbrev qt25 (c0 c1 c2 c3 : D) : List Arg := [.agg [c0, c1, c2], .c c3]
def qT25 (r : qF25 (Option β)) := mkT (u4 qw25) qd25 (u4 r) u al
theorem qP25 (r : qF25 (Option β)) (c0 c1 c2 c3 : D) : PT (qT25 u al r).sp u (qt25 c0 c1 c2 c3) (qp25 qw25 c0 c1 c2 c3) (qp25 r c0 c1 c2 c3) := ⟨rfl, rfl⟩
theorem qa25 (r : qF25 (Option β)) : (qT25 u al r).sp.alias = al := rfl
attribute [go_sem] qw25 qp25 qt25 qP25 qa25
abbrev qF26 (β : Type) := Int → Int → Int → Int → β
def qw26 (a0 a1 a2 a3 : Int) : List Arg := [.c (.int .i64 a0), .ptr [.int .i64 a1, .int .i64 a2, .int .i64 a3]]
def qd26 (a : List Arg) := (dInt (aCell a 0 0), dInt (aCell a 1 0), dInt (aCell a 1 1), dInt (aCell a 1 2))
def qp26 {β : Type} (f : qF26 β) (c0 c1 c2 c3 : D) := f (dInt c0) (dInt c1) (dInt c2) (dInt c3)
abbrev qt26 (c0 c1 c2 c3 : D) : List Arg := [.c c0, .ptr [c1, c2, c3]]
def qT26 (r : qF26 (Option β)) := mkT (u4 qw26) qd26 (u4 r) u al
theorem qP26 (r : qF26 (Option β)) (c0 c1 c2 c3 : D) : PT (qT26 u al r).sp u (qt26 c0 c1 c2 c3) (qp26 qw26 c0 c1 c2 c3) (qp26 r c0 c1 c2 c3) := ⟨rfl, rfl⟩
theorem qa26 (r : qF26 (Option β)) : (qT26 u al r).sp.alias = al := rfl
attribute [go_sem] qw26 qp26 qt26 qP26 qa26
abbrev qF27 (β : Type) := L_I → Int → Int → Int → β
def qw27 (a0 : L_I) (a1 a2 a3 : Int) : List Arg := [.c (encF 1 d_I a0), .clo 218 [[.int .i64 a1, .int .i64 a2, .int .i64 a3]]]
def qd27 (a : List Arg) := (decF g_I (aCell a 0 0), dInt (aCell a 1 0), dInt (aCell a 1 1), dInt (aCell a 1 2))
def qp27 {β : Type} (f : qF27 β) (c0 c1 c2 c3 : D) := f (decF g_I c0) (dInt c1) (dInt c2) (dInt c3)
abbrev qt27 (c0 c1 c2 c3 : D) : List Arg := [.c c0, .clo 218 [[c1, c2, c3]]]
def qT27 (r : qF27 (Option β)) := mkT (u4 qw27) qd27 (u4 r) u al
theorem qP27 (r : qF27 (Option β)) (c0 c1 c2 c3 : D) : PT (qT27 u al r).sp u (qt27 c0 c1 c2 c3) (qp27 qw27 c0 c1 c2 c3) (qp27 r c0 c1 c2 c3) := ⟨rfl, rfl⟩
theorem qa27 (r : qF27 (Option β)) : (qT27 u al r).sp.alias = al := rfl
attribute [go_sem] qw27 qp27 qt27 qP27 qa27
abbrev qF28 (β : Type) := Int → Int → Int → L_II → β
def qw28 (a0 a1 a2 : Int) (a3 : L_II) : List Arg := [.agg [.int .i64 a0, .int .i64 a1, .int .i64 a2], .c (encF 2 d_II a3)]
def qd28 (a : List Arg) := (dInt (aCell a 0 0), dInt (aCell a 0 1), dInt (aCell a 0 2), decF g_II (aCell a 1 0))
def qp28 {β : Type} (f : qF28 β) (c0 c1 c2 c3 : D) := f (dInt c0) (dInt c1) (dInt c2) (decF g_II c3)
abbrev qt28 (c0 c1 c2 c3 : D) : List Arg := [.agg [c0, c1, c2], .c c3]
def qT28 (r : qF28 (Option β)) := mkT (u4 qw28) qd28 (u4 r) u al
theorem qP28 (r : qF28 (Option β)) (c0 c1 c2 c3 : D) : PT (qT28 u al r).sp u (qt28 c0 c1 c2 c3) (qp28 qw28 c0 c1 c2 c3) (qp28 r c0 c1 c2 c3) := ⟨rfl, rfl⟩
theorem qa28 (r : qF28 (Option β)) : (qT28 u al r).sp.alias = al := rfl
attribute [go_sem] qw28 qp28 qt28 qP28 qa28
abbrev qF29 (β : Type) := L_I → L_I → β
def qw29 (a0 a1 : L_I) : List Arg := [.c (encF 1 d_I a0), .c (encF 1 d_I a1)]
def qd29 (a : List Arg) := (decF g_I (aCell a 0 0), decF g_I (aCell a 1 0))
def qp29 {β : Type} (f : qF29 β) (c0 c1 : D) := f (decF g_I c0) (decF g_I c1)
abbrev qt29 (c0 c1 : D) : List Arg := [.c c0, .c c1]
def qT29 (r : qF29 (Option β)) := mkT (u2 qw29) qd29 (u2 r) u al
theorem qP29 (r : qF29 (Option β)) (c0 c1 : D) : PT (qT29 u al r).sp u (qt29 c0 c1) (qp29 qw29 c0 c1) (qp29 r c0 c1) := ⟨rfl, rfl⟩
theorem qa29 (r : qF29 (Option β)) : (qT29 u al r).sp.alias = al := rfl
attribute [go_sem] qw29 qp29 qt29 qP29 qa29
def qu8 (v : L_I × Int × Int) : List RV := [.c (.own (encF 1 d_I v.1)), .c (.d (.int .i64 v.2.1)), .c (.d (.int .i64 v.2.2))]
attribute [go_sem] qu8
def qu9 (v : L_I × Int) : List RV := [.c (.own (encF 1 d_I v.1)), .c (.d (.int .i64 v.2))]
attribute [go_sem] qu9
def qu10 (v : Int × Int × Int) : List RV := [.agg [.d (.int .i64 v.1), .d (.int .i64 v.2.1), .d (.int .i64 v.2.2)]]
attribute [go_sem] qu10
end
/- (martensite/heat.part).stepped$1 -/
def r176 (a0 x0 x1 : Int) (x2 : L_II) (x3 : L_LIIE) (x4 : L_II) (x5 : L_LIIE) : Option (Bool) :=
  (r99 x0 x1 x2 x3 x4 x5 a0).bind fun v1 =>
   some (!v1)
def T176 := qT14 qu1 false r176
attribute [go_sem] T176
def tb176 : Fns := lk [(99, T99.sp)]
theorem tb176_ok : FnsOk Tryz.prog tb176 := .cons f99 .nil
theorem tk176 : tb176 99 = some T99.sp := rfl
section
attribute [local go_sem] tk176 Tryz.results176
theorem f176 : FnFact Tryz.prog 176 T176.sp := by
  refine valid_m ty_ok tb176_ok Tryz.func176 rfl Tryz.ntmps176 fun ⟨a0, x0, x1, x2, x3, x4, x5⟩ r hr => ⟨nL rfl, fun stop S => ?_⟩
  replace hr : r176 a0 x0 x1 x2 x3 x4 x5 = some r := hr
  unfold r176 at hr
  refine S.gx [] ?_
  exact D0 hr
end

/- slices.IndexFunc[[]int,int] -/
def b170b_1 (a0 : L_I) (x0 x1 : Int) (x2 : L_II) (x3 : L_LIIE) (x4 : L_II) (x5 : L_LIIE) : Bd Int Int := fun s1 =>
  if (decide (s1 < (a0.length : Int))) = true then
   if 0 ≤ s1 ∧ s1 < (a0.length : Int) then
    bindC (r176 (a0.getD s1.toNat default) x0 x1 x2 x3 x4 x5) fun v1 =>
     if v1 = true then
      .out (some s1)
      else .next (IntKind.i64.wrap (s1 + 1))
    else .out none
   else .out (some (-1))
def r170b (a0 : L_I) (x0 x1 : Int) (x2 : L_II) (x3 : L_LIIE) (x4 : L_II) (x5 : L_LIIE) : Option (Int) :=
  iterC (b170b_1 a0 x0 x1 x2 x3 x4 x5) 1000000000 0
def T170b := qT21 qu2 false r170b
attribute [go_sem] T170b
def tb170b : Fns := lk [(176, T176.sp)]
theorem tb170b_ok : FnsOk Tryz.prog tb170b := .cons f176 .nil
theorem tk170b : tb170b 176 = some T176.sp := rfl
section
attribute [local go_sem] tk170b Tryz.results170
theorem f170b : FnFact Tryz.prog 170 T170b.sp := by
  refine valid_m ty_ok tb170b_ok Tryz.func170 rfl Tryz.ntmps170 fun ⟨a0, x0, x1, x2, x3, x4, x5⟩ r hr => ⟨nL rfl, fun stop S => ?_⟩
  replace hr : r170b a0 x0 x1 x2 x3 x4 x5 = some r := hr
  unfold r170b at hr
  refine S.gx [] ?_
  refine gr ?_
  refine S.sees [0, 1, 7, 8] [] [] ?_ (Stop.iter S (fun s1 => ⟨[(0, .c (.d (encF 1 d_I a0))), (1, .c (.clo 176 [.sptr [.int .i64 x0, .int .i64 x1, encF 2 d_II x2, encF 1 d_LIIE x3, encF 2 d_II x4, encF 1 d_LIIE x5] 0])), (7, .c (.d (.int .i64 (a0.length : Int)))), (8, .c (.d (.int .i64 s1)))], [], []⟩) (b170b_1 a0 x0 x1 x2 x3 x4 x5) (fun q => q = r) hr rfl ?_)
  · exact lf
  · intro s1 hr
    unfold b170b_1 at hr
    refine S.gx [] ?_
    exact D1 (S.ss [0, 1, 7, 8] [] []) hr
end

/- slices.ContainsFunc[[]int,int] -/
def r104a (a0 : L_I) (x0 x1 : Int) (x2 : L_II) (x3 : L_LIIE) (x4 : L_II) (x5 : L_LIIE) : Option (Bool) :=
  (r170b a0 x0 x1 x2 x3 x4 x5).bind fun v1 =>
   some (decide (v1 ≥ 0))
def T104a := qT21 qu1 false r104a
attribute [go_sem] T104a
def tb104a : Fns := lk [(170, T170b.sp)]
theorem tb104a_ok : FnsOk Tryz.prog tb104a := .cons f170b .nil
theorem tk104a : tb104a 170 = some T170b.sp := rfl
section
attribute [local go_sem] tk104a Tryz.results104
theorem f104a : FnFact Tryz.prog 104 T104a.sp := by
  refine valid_m ty_ok tb104a_ok Tryz.func104 rfl Tryz.ntmps104 fun ⟨a0, x0, x1, x2, x3, x4, x5⟩ r hr => ⟨nL rfl, fun stop S => ?_⟩
  replace hr : r104a a0 x0 x1 x2 x3 x4 x5 = some r := hr
  unfold r104a at hr
  refine S.gx [] ?_
  exact D0 hr
end

/- (martensite/heat.part).stepped -/
def b85_3 (x1 x0 : Int) (x2 : L_II) (x3 : L_LIIE) (x4 : L_II) (x5 : L_LIIE) (x6 : L_I) (v20 : Int) : Bd (Int × (List (Int))) (L_I × Int × Int) := fun s3 =>
  if (decide (s3.1 < (x6.length : Int))) = true then
   if 0 ≤ s3.1 ∧ s3.1 < (x6.length : Int) then
    if 0 ≤ s3.1 ∧ s3.1 < (s3.2.length : Int) then
     if 0 ≤ s3.1 ∧ s3.1 < (s3.2.length : Int) then
      .next (IntKind.i64.wrap (s3.1 + 1), s3.2.set s3.1.toNat (IntKind.i64.wrap ((s3.2.getD s3.1.toNat default) + (x6.getD s3.1.toNat default))))
      else .out none
     else .out none
    else .out none
   else .out ((r104a s3.2 x1 x0 x2 x3 x4 x5).bind fun v24 =>
    (r83 (!v24) 22).bind fun v25 =>
     some (s3.2, v20, v25))
def b85_2 (x1 x0 : Int) (x2 : L_II) (x3 : L_LIIE) (x4 : L_II) (x5 : L_LIIE) (x6 : L_I) (x7 : Int) : Bd (Int × (List (Int))) (L_I × Int × Int) := fun s2 =>
  if (decide ((IntKind.i64.wrap (s2.1 + 1)) < (s2.2.length : Int))) = true then
   if 0 ≤ s2.1 ∧ s2.1 < (s2.2.length : Int) then
    bindC (r100 x1 x0 x2 x3 x4 x5 (s2.2.getD s2.1.toNat default)) fun v11 =>
     if 0 ≤ IntKind.i64.wrap (s2.1 + 1) ∧ IntKind.i64.wrap (s2.1 + 1) < (s2.2.length : Int) then
      bindC (r100 x1 x0 x2 x3 x4 x5 (s2.2.getD (IntKind.i64.wrap (s2.1 + 1)).toNat default)) fun v12 =>
       bindC (r231 (IntKind.i64.wrap (x0 * (IntKind.i64.wrap ((IntKind.i64.wrap (v11.1 * v12.2)) - (IntKind.i64.wrap (v12.1 * v11.2)))))) (IntKind.i64.wrap ((IntKind.i64.wrap (1000 * v11.2)) * v12.2))) fun v13 =>
        if 0 ≤ s2.1 ∧ s2.1 < (s2.2.length : Int) then
         if 0 ≤ IntKind.i64.wrap (s2.1 + 1) ∧ IntKind.i64.wrap (s2.1 + 1) < (s2.2.length : Int) then
          if 0 ≤ s2.1 ∧ s2.1 < (s2.2.length : Int) then
           if 0 ≤ IntKind.i64.wrap (s2.1 + 1) ∧ IntKind.i64.wrap (s2.1 + 1) < (s2.2.length : Int) then
            .next (IntKind.i64.wrap (s2.1 + 2), (s2.2.set s2.1.toNat (IntKind.i64.wrap ((s2.2.getD s2.1.toNat default) - v13))).set (IntKind.i64.wrap (s2.1 + 1)).toNat (IntKind.i64.wrap ((s2.2.getD (IntKind.i64.wrap (s2.1 + 1)).toNat default) + v13)))
            else .out none
           else .out none
          else .out none
         else .out none
      else .out none
    else .out none
   else .out (if 0 ≤ 0 ∧ 0 < (s2.2.length : Int) then
    (r175 x1 x0 x2 x3 x4 x5 x7 (s2.2.getD 0 default)).bind fun v20 =>
     if 0 ≤ 0 ∧ 0 < (s2.2.length : Int) then
      if 0 ≤ 0 ∧ 0 < (s2.2.length : Int) then
       iterC (b85_3 x1 x0 x2 x3 x4 x5 x6 v20) 1000000000 (0, s2.2.set 0 (IntKind.i64.wrap ((s2.2.getD 0 default) - v20)))
       else none
      else none
    else none)
def b85_1 (x1 x0 : Int) (x2 : L_II) (x3 : L_LIIE) (x4 : L_II) (x5 : L_LIIE) (x6 : L_I) (x7 : Int) : Bd (Int × (List (Int))) (L_I × Int × Int) := fun s1 =>
  if (decide ((IntKind.i64.wrap (s1.1 + 1)) < (s1.2.length : Int))) = true then
   if 0 ≤ s1.1 ∧ s1.1 < (s1.2.length : Int) then
    bindC (r100 x1 x0 x2 x3 x4 x5 (s1.2.getD s1.1.toNat default)) fun v2 =>
     if 0 ≤ IntKind.i64.wrap (s1.1 + 1) ∧ IntKind.i64.wrap (s1.1 + 1) < (s1.2.length : Int) then
      bindC (r100 x1 x0 x2 x3 x4 x5 (s1.2.getD (IntKind.i64.wrap (s1.1 + 1)).toNat default)) fun v3 =>
       bindC (r231 (IntKind.i64.wrap (x0 * (IntKind.i64.wrap ((IntKind.i64.wrap (v2.1 * v3.2)) - (IntKind.i64.wrap (v3.1 * v2.2)))))) (IntKind.i64.wrap ((IntKind.i64.wrap (1000 * v2.2)) * v3.2))) fun v4 =>
        if 0 ≤ s1.1 ∧ s1.1 < (s1.2.length : Int) then
         if 0 ≤ IntKind.i64.wrap (s1.1 + 1) ∧ IntKind.i64.wrap (s1.1 + 1) < (s1.2.length : Int) then
          if 0 ≤ s1.1 ∧ s1.1 < (s1.2.length : Int) then
           if 0 ≤ IntKind.i64.wrap (s1.1 + 1) ∧ IntKind.i64.wrap (s1.1 + 1) < (s1.2.length : Int) then
            .next (IntKind.i64.wrap (s1.1 + 2), (s1.2.set s1.1.toNat (IntKind.i64.wrap ((s1.2.getD s1.1.toNat default) - v4))).set (IntKind.i64.wrap (s1.1 + 1)).toNat (IntKind.i64.wrap ((s1.2.getD (IntKind.i64.wrap (s1.1 + 1)).toNat default) + v4)))
            else .out none
           else .out none
          else .out none
         else .out none
      else .out none
    else .out none
   else .out (iterC (b85_2 x1 x0 x2 x3 x4 x5 x6 x7) 1000000000 (1, s1.2))
def r85 (x1 x0 : Int) (x2 : L_II) (x3 : L_LIIE) (x4 : L_II) (x5 : L_LIIE) (a1 x6 : L_I) (x7 : Int) : Option (L_I × Int × Int) :=
  (r173 a1).bind fun v1 =>
   iterC (b85_1 x1 x0 x2 x3 x4 x5 x6 x7) 1000000000 (0, v1)
def T85 := qT22 qu8 false r85
attribute [go_sem] T85
def tb85 : Fns := lk [(83, T83.sp), (100, T100.sp), (104, T104a.sp), (173, T173.sp), (175, T175.sp), (231, T231.sp)]
theorem tb85_ok : FnsOk Tryz.prog tb85 := .cons f83 (.cons f100 (.cons f104a (.cons f173 (.cons f175 (.cons f231 .nil)))))
theorem tk85 : tb85 83 = some T83.sp ∧ tb85 100 = some T100.sp ∧ tb85 104 = some T104a.sp ∧ tb85 173 = some T173.sp ∧ tb85 175 = some T175.sp ∧ tb85 231 = some T231.sp := ⟨rfl, rfl, rfl, rfl, rfl, rfl⟩
section
attribute [local go_sem] tk85 Tryz.results85 Tryz.results174
theorem f85 : FnFact Tryz.prog 85 T85.sp := by
  refine valid_m ty_ok tb85_ok Tryz.func85 rfl Tryz.ntmps85 fun ⟨x1, x0, x2, x3, x4, x5, a1, x6, x7⟩ r hr => ⟨nL rfl, fun stop S => ?_⟩
  replace hr : r85 x1 x0 x2 x3 x4 x5 a1 x6 x7 = some r := hr
  unfold r85 at hr
  refine S.gx [2, 3] ?_
  obtain ⟨v1, hv1, hr⟩ := of_bind0 hr
  refine gb hv1 ?_
  refine S.inl 2 [3, 5, 9] [] Tryz.func174 (by decide) rfl Tryz.ntmps174 (fun cx e => drawn_ok ty_ok tb85_ok cx e) (some 18) rfl rfl rfl rfl (nL rfl) (nL rfl) ?_
  refine gs ?_
  refine gr ?_
  intro stop1 S1
  refine S1.gx [6] ?_
  refine gr ?_
  refine S1.sees [1, 3, 6] [(100003, 100003), (3, 3), (5, 5)] [(15, 15)] ?_ (Stop.iter S1 (fun s1 => ⟨[(1, .c (.own 15)), (3, .c (.ref 100003 0)), (6, .c (.d (.int .i64 s1.1)))], [(100003, [.d (.int .i64 x1), .d (.int .i64 x0), .d (encF 2 d_II x2), .d (encF 1 d_LIIE x3), .d (encF 2 d_II x4), .d (encF 1 d_LIIE x5)]), (3, [.d (.int .i64 x1), .d (.int .i64 x0), .d (encF 2 d_II x2), .d (encF 1 d_LIIE x3), .d (encF 2 d_II x4), .d (encF 1 d_LIIE x5)]), (5, [.d (encF 1 d_I x6), .d (.int .i64 x7)])], [(15, .owned (encF 1 d_I s1.2))]⟩) (b85_1 x1 x0 x2 x3 x4 x5 x6 x7) (fun q => q = r) hr rfl ?_)
  · exact lf
  · intro s1 hr
    unfold b85_1 at hr
    refine S1.gx [6] ?_
    refine gr ?_
    refine iW1 hr (fun hc hr => ?_) fun hc hr => ?_
    · obtain ⟨hg9, hr⟩ := of_guard1 hr
      obtain ⟨v2, hv2, hr⟩ := of_bind1 hr
      obtain ⟨hg10, hr⟩ := of_guard1 hr
      obtain ⟨v3, hv3, hr⟩ := of_bind1 hr
      obtain ⟨v4, hv4, hr⟩ := of_bind1 hr
      refine gb hv2 ?_
      refine gb hv3 ?_
      refine gb hv4 ?_
      refine S1.prune [1, 3, 6, 9] ?_
      refine S1.gx [] ?_
      exact D1 (S1.ss [1, 3, 6] [(100003, 100003), (3, 3), (5, 5)] [(15, 15)]) hr
    · refine gr ?_
      have hr := of_out0 hr
      refine gr ?_
      refine gr ?_
      refine S.gx [2, 3] ?_
      refine gr ?_
      refine S.inl 2 [3, 5, 9] [] Tryz.func174 (by decide) rfl Tryz.ntmps174 (fun cx e => drawn_ok ty_ok tb85_ok cx e) (some 21) rfl rfl rfl rfl (nL rfl) (nL rfl) ?_
      refine gs ?_
      refine gr ?_
      intro stop1 S1
      refine S1.gx [6] ?_
      refine gr ?_
      refine S1.sees [1, 3, 6] [(200003, 200003), (3, 3), (5, 5)] [(15, 15)] ?_ (Stop.iter S1 (fun s2 => ⟨[(1, .c (.own 15)), (3, .c (.ref 200003 0)), (6, .c (.d (.int .i64 s2.1)))], [(200003, [.d (.int .i64 x1), .d (.int .i64 x0), .d (encF 2 d_II x2), .d (encF 1 d_LIIE x3), .d (encF 2 d_II x4), .d (encF 1 d_LIIE x5)]), (3, [.d (.int .i64 x1), .d (.int .i64 x0), .d (encF 2 d_II x2), .d (encF 1 d_LIIE x3), .d (encF 2 d_II x4), .d (encF 1 d_LIIE x5)]), (5, [.d (encF 1 d_I x6), .d (.int .i64 x7)])], [(15, .owned (encF 1 d_I s2.2))]⟩) (b85_2 x1 x0 x2 x3 x4 x5 x6 x7) (fun q => q = r) hr rfl ?_)
      · exact lf
      · intro s2 hr
        unfold b85_2 at hr
        refine S1.gx [6] ?_
        refine gr ?_
        refine iW1 hr (fun hc hr => ?_) fun hc hr => ?_
        · obtain ⟨hg18, hr⟩ := of_guard1 hr
          obtain ⟨v11, hv11, hr⟩ := of_bind1 hr
          obtain ⟨hg19, hr⟩ := of_guard1 hr
          obtain ⟨v12, hv12, hr⟩ := of_bind1 hr
          obtain ⟨v13, hv13, hr⟩ := of_bind1 hr
          refine gb hv11 ?_
          refine gb hv12 ?_
          refine gb hv13 ?_
          refine S1.prune [1, 3, 6, 9] ?_
          refine S1.gx [] ?_
          exact D1 (S1.ss [1, 3, 6] [(200003, 200003), (3, 3), (5, 5)] [(15, 15)]) hr
        · refine gr ?_
          have hr := of_out0 hr
          refine gr ?_
          refine gr ?_
          refine S.gx [2, 3] ?_
          obtain ⟨hg26, hr⟩ := of_guard0 hr
          obtain ⟨v20, hv20, hr⟩ := of_bind0 hr
          obtain ⟨hg27, hr⟩ := of_guard0 hr
          obtain ⟨hg28, hr⟩ := of_guard0 hr
          refine gb hv20 ?_
          refine S.sees [3, 9, 10, 36, 37, 38] [(3, 3)] [(15, 15)] ?_ (Stop.iter S (fun s3 => ⟨[(3, .c (.ref 3 0)), (9, .c (.own 15)), (10, .c (.d (.int .i64 v20))), (36, .c (.d (encF 1 d_I x6))), (37, .c (.d (.int .i64 (x6.length : Int)))), (38, .c (.d (.int .i64 s3.1)))], [(3, [.d (.int .i64 x1), .d (.int .i64 x0), .d (encF 2 d_II x2), .d (encF 1 d_LIIE x3), .d (encF 2 d_II x4), .d (encF 1 d_LIIE x5)])], [(15, .owned (encF 1 d_I s3.2))]⟩) (b85_3 x1 x0 x2 x3 x4 x5 x6 v20) (fun q => q = r) hr rfl ?_)
          · exact lf
          · intro s3 hr
            unfold b85_3 at hr
            refine S.gx [2, 3] ?_
            exact D1 (S.ss [3, 9, 10, 36, 37, 38] [(3, 3)] [(15, 15)]) hr
end

/- martensite/heat.Stepped -/
def r38 (x2 x3 : Int) (x4 : L_II) (x5 : L_LIIE) (a1 x0 : L_I) (x1 : Int) : Option (L_I × Int) :=
  (r78 x2 x3 x4 x5 a1).bind fun v1 =>
   if (v1.2.2.2.2.2.2 == 0) = true then
    (r81 v1.1 v1.2.1 v1.2.2.1 v1.2.2.2.1 v1.2.2.2.2.1 v1.2.2.2.2.2.1 x0 x1).bind fun v2 =>
     if (v2 != 0) = true then
      some ([], v2)
      else (r85 v1.1 v1.2.1 v1.2.2.1 v1.2.2.2.1 v1.2.2.2.2.1 v1.2.2.2.2.2.1 a1 x0 x1).bind fun v3 =>
       if (v3.2.2 != 0) = true then
        some ([], v3.2.2)
        else some (v3.1, 0)
    else if (v1.2.2.2.2.2.2 != 0) = true then
     some ([], v1.2.2.2.2.2.2)
     else (r85 v1.1 v1.2.1 v1.2.2.1 v1.2.2.2.1 v1.2.2.2.2.1 v1.2.2.2.2.2.1 a1 x0 x1).bind fun v4 =>
      if (v4.2.2 != 0) = true then
       some ([], v4.2.2)
       else some (v4.1, 0)
def T38 := qT23 qu9 false r38
attribute [go_sem] T38
def tb38 : Fns := lk [(78, T78.sp), (81, T81.sp), (85, T85.sp)]
theorem tb38_ok : FnsOk Tryz.prog tb38 := .cons f78 (.cons f81 (.cons f85 .nil))
theorem tk38 : tb38 78 = some T78.sp ∧ tb38 81 = some T81.sp ∧ tb38 85 = some T85.sp := ⟨rfl, rfl, rfl⟩
section
attribute [local go_sem] tk38 Tryz.results38
theorem f38 : FnFact Tryz.prog 38 T38.sp := by
  refine valid_m ty_ok tb38_ok Tryz.func38 rfl Tryz.ntmps38 fun ⟨x2, x3, x4, x5, a1, x0, x1⟩ r hr => ⟨nL rfl, fun stop S => ?_⟩
  replace hr : r38 x2 x3 x4 x5 a1 x0 x1 = some r := hr
  unfold r38 at hr
  refine S.gx [7] ?_
  obtain ⟨v1, hv1, hr⟩ := of_bind0 hr
  refine gb hv1 ?_
  refine iW hr (fun hc hr => ?_) fun hc hr => ?_
  · obtain ⟨v2, hv2, hr⟩ := of_bind0 hr
    refine gb hv2 ?_
    refine iW hr (fun hc hr => D0 hr) fun hc hr => ?_
    obtain ⟨v3, hv3, hr⟩ := of_bind0 hr
    refine gb hv3 ?_
    refine S.prune [9, 10] ?_
    refine S.gx [] ?_
    exact D0 hr
  · refine gr ?_
    refine iW hr (fun hc hr => D0 hr) fun hc hr => ?_
    obtain ⟨v4, hv4, hr⟩ := of_bind0 hr
    refine gb hv4 ?_
    refine S.prune [9, 10] ?_
    refine S.gx [] ?_
    exact D0 hr
end

/- martensite/martensitelaw03.Water -/
def r63 : Option (Int × Int × Int) :=
  some (100, 50, 200)
def T63 := qT0 qu10 false r63
attribute [go_sem] T63
def tb63 : Fns := lk []
theorem tb63_ok : FnsOk Tryz.prog tb63 := FnsOk.nil
section
attribute [local go_sem] Tryz.results63
theorem f63 : FnFact Tryz.prog 63 T63.sp := by
  refine valid_m ty_ok tb63_ok Tryz.func63 rfl Tryz.ntmps63 fun _ r hr => ⟨nL rfl, fun stop S => ?_⟩
  replace hr : r63 = some r := hr
  unfold r63 at hr
  refine S.gx [] ?_
  exact D0 hr
end

/- martensite/heat.isHeat -/
def r216 (a0 : Int) : Option (Bool) :=
  (r79 a0 0 1000000).bind fun v1 =>
   some v1
def T216 := qT4 qu1 false r216
attribute [go_sem] T216
def tb216 : Fns := lk [(79, T79.sp)]
theorem tb216_ok : FnsOk Tryz.prog tb216 := .cons f79 .nil
theorem tk216 : tb216 79 = some T79.sp := rfl
section
attribute [local go_sem] tk216 Tryz.results216
theorem f216 : FnFact Tryz.prog 216 T216.sp := by
  refine valid_m ty_ok tb216_ok Tryz.func216 rfl Tryz.ntmps216 fun a0 r hr => ⟨nL rfl, fun stop S => ?_⟩
  replace hr : r216 a0 = some r := hr
  unfold r216 at hr
  refine S.gx [] ?_
  exact D0 hr
end

/- martensite/heat.CheckWater -/
def r150 (x2 x0 x1 : Int) : Option (Int) :=
  (r216 x2).bind fun v1 =>
   if v1 = true → (r216 x0).isSome = true then
    if (v1 && ((r216 x0).getD default)) = true → (r216 x1).isSome = true then
     (r83 ((v1 && ((r216 x0).getD default)) && ((r216 x1).getD default)) 2).bind fun v2 =>
      (r83 (decide (x2 < x1)) 9).bind fun v3 =>
       (r80 [v2, v3]).bind fun v4 =>
        some v4
     else none
    else none
def T150 := qT24 qu2 false r150
attribute [go_sem] T150
def tb150 : Fns := lk [(80, T80.sp), (83, T83.sp), (216, T216.sp)]
theorem tb150_ok : FnsOk Tryz.prog tb150 := .cons f80 (.cons f83 (.cons f216 .nil))
theorem tk150 : tb150 80 = some T80.sp ∧ tb150 83 = some T83.sp ∧ tb150 216 = some T216.sp := ⟨rfl, rfl, rfl⟩
section
attribute [local go_sem] tk150 Tryz.results150
theorem f150 : FnFact Tryz.prog 150 T150.sp := by
  refine valid_m ty_ok tb150_ok Tryz.func150 rfl Tryz.ntmps150 fun ⟨x2, x0, x1⟩ r hr => ⟨nL rfl, fun stop S => ?_⟩
  replace hr : r150 x2 x0 x1 = some r := hr
  unfold r150 at hr
  refine S.gx [] ?_
  obtain ⟨v1, hv1, hr⟩ := of_bind0 hr
  obtain ⟨hg5, hr⟩ := of_guard0 hr
  obtain ⟨hg6, hr⟩ := of_guard0 hr
  obtain ⟨v2, hv2, hr⟩ := of_bind0 hr
  obtain ⟨v3, hv3, hr⟩ := of_bind0 hr
  obtain ⟨v4, hv4, hr⟩ := of_bind0 hr
  try simp only [hv1, hv2, hv3, hv4, Option.getD_some, Option.isSome_some, true_and, and_assoc]
  repeat (first | refine gG hg5 ?_ | refine gG hg6 ?_ | refine gA ?_ | refine gB ?_)
  exact D0 hr
end

/- martensite/heat.isFlow -/
def r151 (a0 : Int) : Option (Bool) :=
  (r79 a0 0 1000).bind fun v1 =>
   some v1
def T151 := qT4 qu1 false r151
attribute [go_sem] T151
def tb151 : Fns := lk [(79, T79.sp)]
theorem tb151_ok : FnsOk Tryz.prog tb151 := .cons f79 .nil
theorem tk151 : tb151 79 = some T79.sp := rfl
section
attribute [local go_sem] tk151 Tryz.results151
theorem f151 : FnFact Tryz.prog 151 T151.sp := by
  refine valid_m ty_ok tb151_ok Tryz.func151 rfl Tryz.ntmps151 fun a0 r hr => ⟨nL rfl, fun stop S => ?_⟩
  replace hr : r151 a0 = some r := hr
  unfold r151 at hr
  refine S.gx [] ?_
  exact D0 hr
end

/- martensite/heat.heats -/
def b217_1 (x0 : Int) (a1 : L_I) : Bd ((List (Int)) × Int × Int) L_I := fun s1 =>
  if (decide (s1.2.2 < (a1.length : Int))) = true then
   if 0 ≤ s1.2.2 ∧ s1.2.2 < (a1.length : Int) then
    if (s1.1.length + 1) * 8 ≤ 140737488355328 ∧ s1.1.length + 1 ≤ 9223372036854775807 then
     .next (s1.1 ++ [IntKind.i64.wrap (s1.2.1 + (IntKind.i64.wrap (x0 - (IntKind.i64.wrap ((IntKind.i64.wrap (s1.2.1 * (a1.getD s1.2.2.toNat default))).tdiv 1000)))))], IntKind.i64.wrap (s1.2.1 + (IntKind.i64.wrap (x0 - (IntKind.i64.wrap ((IntKind.i64.wrap (s1.2.1 * (a1.getD s1.2.2.toNat default))).tdiv 1000))))), IntKind.i64.wrap (s1.2.2 + 1))
     else .out none
    else .out none
   else .out (some s1.1)
def r217 (x1 x0 x2 : Int) (a1 : L_I) : Option (L_I) :=
  iterC (b217_1 x0 a1) 1000000000 ([], x1, 0)
def T217 := qT25 qu11 false r217
attribute [go_sem] T217
def tb217 : Fns := lk []
theorem tb217_ok : FnsOk Tryz.prog tb217 := FnsOk.nil
section
attribute [local go_sem] Tryz.results217
theorem f217 : FnFact Tryz.prog 217 T217.sp := by
  refine valid_m ty_ok tb217_ok Tryz.func217 rfl Tryz.ntmps217 fun ⟨x1, x0, x2, a1⟩ r hr => ⟨nL rfl, fun stop S => ?_⟩
  replace hr : r217 x1 x0 x2 a1 = some r := hr
  unfold r217 at hr
  refine S.gx [] ?_
  refine gr ?_
  refine S.own0 5 1000500 1 rfl rfl ?_
  refine S.sees [2, 5, 6, 11, 12, 13] [(2, 2)] [(1000500, 1000500)] ?_ (Stop.iter S (fun s1 => ⟨[(2, .c (.ref 2 0)), (5, .c (.own 1000500)), (6, .c (.d (.int .i64 s1.2.1))), (11, .c (.d (encF 1 d_I a1))), (12, .c (.d (.int .i64 (a1.length : Int)))), (13, .c (.d (.int .i64 s1.2.2)))], [(2, [.d (.int .i64 x1), .d (.int .i64 x0), .d (.int .i64 x2)])], [(1000500, .owned (encF 1 d_I s1.1))]⟩) (b217_1 x0 a1) (fun q => q = r) hr rfl ?_)
  · exact lf
  · intro s1 hr
    unfold b217_1 at hr
    refine S.gx [] ?_
    exact D1 (S.ss [2, 5, 6, 11, 12, 13] [(2, 2)] [(29, 1000500)]) hr
end

/- martensite/heat.boiling$1 -/
def r218 (a0 x1 x2 x0 : Int) : Option (Bool) :=
  some (decide (a0 ≥ x0))
def T218 := qT26 qu1 false r218
attribute [go_sem] T218
def tb218 : Fns := lk []
theorem tb218_ok : FnsOk Tryz.prog tb218 := FnsOk.nil
section
attribute [local go_sem] Tryz.results218
theorem f218 : FnFact Tryz.prog 218 T218.sp := by
  refine valid_m ty_ok tb218_ok Tryz.func218 rfl Tryz.ntmps218 fun ⟨a0, x1, x2, x0⟩ r hr => ⟨nL rfl, fun stop S => ?_⟩
  replace hr : r218 a0 x1 x2 x0 = some r := hr
  unfold r218 at hr
  refine S.gx [] ?_
  exact D0 hr
end

/- slices.IndexFunc[[]int,int] -/
def b170c_1 (a0 : L_I) (x0 x1 x2 : Int) : Bd Int Int := fun s1 =>
  if (decide (s1 < (a0.length : Int))) = true then
   if 0 ≤ s1 ∧ s1 < (a0.length : Int) then
    bindC (r218 (a0.getD s1.toNat default) x0 x1 x2) fun v1 =>
     if v1 = true then
      .out (some s1)
      else .next (IntKind.i64.wrap (s1 + 1))
    else .out none
   else .out (some (-1))
def r170c (a0 : L_I) (x0 x1 x2 : Int) : Option (Int) :=
  iterC (b170c_1 a0 x0 x1 x2) 1000000000 0
def T170c := qT27 qu2 false r170c
attribute [go_sem] T170c
def tb170c : Fns := lk [(218, T218.sp)]
theorem tb170c_ok : FnsOk Tryz.prog tb170c := .cons f218 .nil
theorem tk170c : tb170c 218 = some T218.sp := rfl
section
attribute [local go_sem] tk170c Tryz.results170
theorem f170c : FnFact Tryz.prog 170 T170c.sp := by
  refine valid_m ty_ok tb170c_ok Tryz.func170 rfl Tryz.ntmps170 fun ⟨a0, x0, x1, x2⟩ r hr => ⟨nL rfl, fun stop S => ?_⟩
  replace hr : r170c a0 x0 x1 x2 = some r := hr
  unfold r170c at hr
  refine S.gx [] ?_
  refine gr ?_
  refine S.sees [0, 1, 7, 8] [] [] ?_ (Stop.iter S (fun s1 => ⟨[(0, .c (.d (encF 1 d_I a0))), (1, .c (.clo 218 [.sptr [.int .i64 x0, .int .i64 x1, .int .i64 x2] 0])), (7, .c (.d (.int .i64 (a0.length : Int)))), (8, .c (.d (.int .i64 s1)))], [], []⟩) (b170c_1 a0 x0 x1 x2) (fun q => q = r) hr rfl ?_)
  · exact lf
  · intro s1 hr
    unfold b170c_1 at hr
    refine S.gx [] ?_
    exact D1 (S.ss [0, 1, 7, 8] [] []) hr
end

/- martensite/heat.boiling -/
def r152 (x0 x1 x2 : Int) (a1 : L_I) : Option (Int) :=
  (r217 x0 x1 x2 a1).bind fun v1 =>
   (r170c v1 x0 x1 x2).bind fun v2 =>
    if (decide (v2 < 0)) = true then
     some (IntKind.i64.wrap ((a1.length : Int) + 1))
     else some (IntKind.i64.wrap (v2 + 1))
def T152 := qT25 qu2 false r152
attribute [go_sem] T152
def tb152 : Fns := lk [(170, T170c.sp), (217, T217.sp)]
theorem tb152_ok : FnsOk Tryz.prog tb152 := .cons f170c (.cons f217 .nil)
theorem tk152 : tb152 170 = some T170c.sp ∧ tb152 217 = some T217.sp := ⟨rfl, rfl⟩
section
attribute [local go_sem] tk152 Tryz.results152
theorem f152 : FnFact Tryz.prog 152 T152.sp := by
  refine valid_m ty_ok tb152_ok Tryz.func152 rfl Tryz.ntmps152 fun ⟨x0, x1, x2, a1⟩ r hr => ⟨nL rfl, fun stop S => ?_⟩
  replace hr : r152 x0 x1 x2 a1 = some r := hr
  unfold r152 at hr
  refine S.gx [] ?_
  exact D0 hr
end

/- martensite/heat.BoilingIn -/
def b62_1 (x0 x1 x2 : Int) (a1 : L_II) : Bd (Int × (List (Int)) × (List (Int)) × Int) (Int × Int × Int) := fun s1 =>
  if (decide (s1.2.2.2 < (a1.length : Int))) = true then
   if 0 ≤ s1.2.2.2 ∧ s1.2.2.2 < (a1.length : Int) then
    bindC (r151 ((a1.getD s1.2.2.2.toNat default).1)) fun v4 =>
     if v4 = true → (r151 ((a1.getD s1.2.2.2.toNat default).2)).isSome = true then
      bindC (r83 (v4 && ((r151 ((a1.getD s1.2.2.2.toNat default).2)).getD default)) 2) fun v5 =>
       bindC (r83 (decide (((a1.getD s1.2.2.2.toNat default).1) ≤ ((a1.getD s1.2.2.2.toNat default).2))) 9) fun v6 =>
        bindC (r80 [s1.1, v5, v6]) fun v7 =>
         if (s1.2.1.length + 1) * 8 ≤ 140737488355328 ∧ s1.2.1.length + 1 ≤ 9223372036854775807 then
          if (s1.2.2.1.length + 1) * 8 ≤ 140737488355328 ∧ s1.2.2.1.length + 1 ≤ 9223372036854775807 then
           .next (v7, s1.2.1 ++ [(a1.getD s1.2.2.2.toNat default).1], s1.2.2.1 ++ [(a1.getD s1.2.2.2.toNat default).2], IntKind.i64.wrap (s1.2.2.2 + 1))
           else .out none
          else .out none
      else .out none
    else .out none
   else .out (if (s1.1 != 0) = true then
    some (0, 0, s1.1)
    else (r152 x0 x1 x2 s1.2.1).bind fun v12 =>
     (r152 x0 x1 x2 s1.2.2.1).bind fun v13 =>
      if (decide (v12 > (a1.length : Int))) = true then
       some (0, 0, 12)
       else some (v12, v13, 0))
def r62 (x0 x1 x2 : Int) (a1 : L_II) : Option (Int × Int × Int) :=
  (r150 x0 x1 x2).bind fun v1 =>
   (r83 (decide ((a1.length : Int) ≤ 200)) 8).bind fun v2 =>
    (r80 [v1, v2]).bind fun v3 =>
     iterC (b62_1 x0 x1 x2 a1) 1000000000 (v3, [], [], 0)
def T62 := qT28 qu12 false r62
attribute [go_sem] T62
def tb62 : Fns := lk [(80, T80.sp), (83, T83.sp), (150, T150.sp), (151, T151.sp), (152, T152.sp)]
theorem tb62_ok : FnsOk Tryz.prog tb62 := .cons f80 (.cons f83 (.cons f150 (.cons f151 (.cons f152 .nil))))
theorem tk62 : tb62 80 = some T80.sp ∧ tb62 83 = some T83.sp ∧ tb62 150 = some T150.sp ∧ tb62 151 = some T151.sp ∧ tb62 152 = some T152.sp := ⟨rfl, rfl, rfl, rfl, rfl⟩
section
attribute [local go_sem] tk62 Tryz.results62
theorem f62 : FnFact Tryz.prog 62 T62.sp := by
  refine valid_m ty_ok tb62_ok Tryz.func62 rfl Tryz.ntmps62 fun ⟨x0, x1, x2, a1⟩ r hr => ⟨nL rfl, fun stop S => ?_⟩
  replace hr : r62 x0 x1 x2 a1 = some r := hr
  unfold r62 at hr
  refine S.gx [8] ?_
  obtain ⟨v1, hv1, hr⟩ := of_bind0 hr
  obtain ⟨v2, hv2, hr⟩ := of_bind0 hr
  obtain ⟨v3, hv3, hr⟩ := of_bind0 hr
  refine gb hv1 ?_
  refine gb hv2 ?_
  refine gb hv3 ?_
  refine S.own0 7 1000700 1 rfl rfl ?_
  refine S.own0 8 1000800 1 rfl rfl ?_
  refine S.sees [1, 2, 4, 6, 7, 8, 20, 21, 22] [(2, 2), (4, 4)] [(1000700, 1000700), (1000800, 1000800)] ?_ (Stop.iter S (fun s1 => ⟨[(1, .c (.d (encF 2 d_II a1))), (2, .c (.ref 2 0)), (4, .c (.ref 4 0)), (6, .c (.d (.int .i64 s1.1))), (7, .c (.own 1000700)), (8, .c (.own 1000800)), (20, .c (.d (encF 2 d_II a1))), (21, .c (.d (.int .i64 (a1.length : Int)))), (22, .c (.d (.int .i64 s1.2.2.2)))], [(2, [.d (.int .i64 x0), .d (.int .i64 x1), .d (.int .i64 x2)]), (4, [.d (.int .i64 0), .d (.int .i64 0)])], [(1000700, .owned (encF 1 d_I s1.2.1)), (1000800, .owned (encF 1 d_I s1.2.2.1))]⟩) (b62_1 x0 x1 x2 a1) (fun q => q = r) hr rfl ?_)
  · exact lf
  · intro s1 hr
    unfold b62_1 at hr
    refine S.gx [8] ?_
    refine gr ?_
    refine iW1 hr (fun hc hr => ?_) fun hc hr => D0 hr
    obtain ⟨hg8, hr⟩ := of_guard1 hr
    obtain ⟨v4, hv4, hr⟩ := of_bind1 hr
    obtain ⟨hg9, hr⟩ := of_guard1 hr
    obtain ⟨v5, hv5, hr⟩ := of_bind1 hr
    obtain ⟨v6, hv6, hr⟩ := of_bind1 hr
    obtain ⟨v7, hv7, hr⟩ := of_bind1 hr
    obtain ⟨hg10, hr⟩ := of_guard1 hr
    obtain ⟨hg11, hr⟩ := of_guard1 hr
    try simp only [hv4, hv5, hv6, hv7, Option.getD_some, Option.isSome_some, true_and, and_assoc]
    repeat (first | refine gG hg9 ?_ | refine gA ?_ | refine gB ?_)
    refine S.prune [1, 2, 4, 6, 7, 8, 20, 21, 22] ?_
    refine S.gx [] ?_
    exact D1 (S.ss [1, 2, 4, 6, 7, 8, 20, 21, 22] [(2, 2), (4, 4)] [(48, 1000700), (53, 1000800)]) hr
end

/- martensite/martensitebase.Ints -/
def b64_1 (a0 a1 : L_I) : Bd Int Bool := fun s1 =>
  if (decide (s1 < (a0.length : Int))) = true then
   if 0 ≤ s1 ∧ s1 < (a0.length : Int) then
    if 0 ≤ s1 ∧ s1 < (a1.length : Int) then
     if ((a0.getD s1.toNat default) != (a1.getD s1.toNat default)) = true then
      .out (some false)
      else .next (IntKind.i64.wrap (s1 + 1))
     else .out none
    else .out none
   else .out (some true)
def r64 (a0 a1 : L_I) : Option (Bool) :=
  if ((a0.length : Int) != (a1.length : Int)) = true then
   some false
   else iterC (b64_1 a0 a1) 1000000000 0
def T64 := qT29 qu1 false r64
attribute [go_sem] T64
def tb64 : Fns := lk []
theorem tb64_ok : FnsOk Tryz.prog tb64 := FnsOk.nil
section
attribute [local go_sem] Tryz.results64
theorem f64 : FnFact Tryz.prog 64 T64.sp := by
  refine valid_m ty_ok tb64_ok Tryz.func64 rfl Tryz.ntmps64 fun ⟨a0, a1⟩ r hr => ⟨nL rfl, fun stop S => ?_⟩
  replace hr : r64 a0 a1 = some r := hr
  unfold r64 at hr
  refine S.gx [] ?_
  refine gr ?_
  refine iW hr (fun hc hr => D0 hr) fun hc hr => ?_
  refine gr ?_
  refine S.sees [0, 1, 5] [] [] ?_ (Stop.iter S (fun s1 => ⟨[(0, .c (.d (encF 1 d_I a0))), (1, .c (.d (encF 1 d_I a1))), (5, .c (.d (.int .i64 s1)))], [], []⟩) (b64_1 a0 a1) (fun q => q = r) hr rfl ?_)
  · exact lf
  · intro s1 hr
    unfold b64_1 at hr
    refine S.gx [] ?_
    exact D1 (S.ss [0, 1, 5] [] []) hr
end

/- martensite/martensitetop.heatShown -/
def r6 : Option (Bool) :=
  (r61).bind fun v1 =>
   (r38 v1.1 v1.2.1 v1.2.2.1 v1.2.2.2 [1000, 200, 0] [10, 0, 0] 1).bind fun v2 =>
    (r63).bind fun v3 =>
     (r62 v3.1 v3.2.1 v3.2.2 [(100, 500), (100, 500), (100, 500), (100, 500)]).bind fun v4 =>
      if (v2.2 == 0) = true → (r64 v2.1 [650, 300, 100]).isSome = true then
       some ((((v2.2 == 0) && ((r64 v2.1 [650, 300, 100]).getD default)) && (v4.2.2 == 0)) && ((v4.1 == 3) && (v4.2.1 == 5)))
       else none
def T6 := qT0 qu1 false r6
attribute [go_sem] T6
def tb6 : Fns := lk [(38, T38.sp), (61, T61.sp), (62, T62.sp), (63, T63.sp), (64, T64.sp)]
theorem tb6_ok : FnsOk Tryz.prog tb6 := .cons f38 (.cons f61 (.cons f62 (.cons f63 (.cons f64 .nil))))
theorem tk6 : tb6 38 = some T38.sp ∧ tb6 61 = some T61.sp ∧ tb6 62 = some T62.sp ∧ tb6 63 = some T63.sp ∧ tb6 64 = some T64.sp := ⟨rfl, rfl, rfl, rfl, rfl⟩
section
attribute [local go_sem] tk6 Tryz.results6
theorem f6 : FnFact Tryz.prog 6 T6.sp := by
  refine valid_m ty_ok tb6_ok Tryz.func6 rfl Tryz.ntmps6 fun _ r hr => ⟨nL rfl, fun stop S => ?_⟩
  replace hr : r6 = some r := hr
  unfold r6 at hr
  refine S.gx [] ?_
  obtain ⟨v1, hv1, hr⟩ := of_bind0 hr
  obtain ⟨v2, hv2, hr⟩ := of_bind0 hr
  obtain ⟨v3, hv3, hr⟩ := of_bind0 hr
  obtain ⟨v4, hv4, hr⟩ := of_bind0 hr
  obtain ⟨hg5, hr⟩ := of_guard0 hr
  try simp only [hv1, hv2, hv3, hv4, Option.getD_some, Option.isSome_some, true_and, and_assoc]
  repeat (first | refine gG hg5 ?_ | refine gA ?_ | refine gB ?_)
  exact D0 hr
end
end Go.Proofs.YthldpejmofhaoaaGreatDoor

/- Contracts of functions, written by wip/dec. -/
import Derived.Test.YthcpkkpjegldoaaDoorF00
import Derived.Test.YthcpkkpjegldoaaDoorF01
set_option linter.unusedVariables false
set_option linter.unusedSimpArgs false
set_option linter.constructorNameAsVariable false
set_option maxHeartbeats 4000000
set_option maxRecDepth 20000
namespace Go.Proofs.YthcpkkpjegldoaaDoor
open Go.Abs
section
variable {β : Type} [Inhabited β] (u : β → List RV) (al : Bool)
abbrev qF10 (β : Type) := Int → Int → Int → Int → Int → Int → Int → β
def qw10 (a0 a1 a2 a3 a4 a5 a6 : Int) : List Arg := [.agg [.int .i64 a0, .int .i64 a1, .int .i64 a2, .int .i64 a3, .int .i64 a4, .int .i64 a5, .int .i64 a6]]
def qd10 (a : List Arg) := (dInt (aCell a 0 0), dInt (aCell a 0 1), dInt (aCell a 0 2), dInt (aCell a 0 3), dInt (aCell a 0 4), dInt (aCell a 0 5), dInt (aCell a 0 6))
def qp10 {β : Type} (f : qF10 β) (c0 c1 c2 c3 c4 c5 c6 : D) := f (dInt c0) (dInt c1) (dInt c2) (dInt c3) (dInt c4) (dInt c5) (dInt c6)
abbrev qt10 (c0 c1 c2 c3 c4 c5 c6 : D) : List Arg := [.agg [c0, c1, c2, c3, c4, c5, c6]]
def qT10 (r : qF10 (Option β)) := mkT (u7 qw10) qd10 (u7 r) u al
theorem qP10 (r : qF10 (Option β)) (c0 c1 c2 c3 c4 c5 c6 : D) : PT (qT10 u al r).sp u (qt10 c0 c1 c2 c3 c4 c5 c6) (qp10 qw10 c0 c1 c2 c3 c4 c5 c6) (qp10 r c0 c1 c2 c3 c4 c5 c6) := ⟨rfl, rfl⟩
theorem qa10 (r : qF10 (Option β)) : (qT10 u al r).sp.alias = al := rfl
attribute [go_sem] qw10 qp10 qt10 qP10 qa10
abbrev qF11 (β : Type) := L_I → β
def qw11 (a0 : L_I) : List Arg := [.c (encF 1 d_I a0), .clo 48 []]
def qd11 (a : List Arg) := decF g_I (aCell a 0 0)
def qp11 {β : Type} (f : qF11 β) (c0 : D) := f (decF g_I c0)
abbrev qt11 (c0 : D) : List Arg := [.c c0, .clo 48 []]
def qT11 (r : qF11 (Option β)) := mkT (u1 qw11) qd11 (u1 r) u al
theorem qP11 (r : qF11 (Option β)) (c0 : D) : PT (qT11 u al r).sp u (qt11 c0) (qp11 qw11 c0) (qp11 r c0) := ⟨rfl, rfl⟩
theorem qa11 (r : qF11 (Option β)) : (qT11 u al r).sp.alias = al := rfl
attribute [go_sem] qw11 qp11 qt11 qP11 qa11
abbrev qF12 (β : Type) := Int → Int → Int → β
def qw12 (a0 a1 a2 : Int) : List Arg := [.agg [.int .i64 a0, .int .i64 a1, .int .i64 a2]]
def qd12 (a : List Arg) := (dInt (aCell a 0 0), dInt (aCell a 0 1), dInt (aCell a 0 2))
def qp12 {β : Type} (f : qF12 β) (c0 c1 c2 : D) := f (dInt c0) (dInt c1) (dInt c2)
abbrev qt12 (c0 c1 c2 : D) : List Arg := [.agg [c0, c1, c2]]
def qT12 (r : qF12 (Option β)) := mkT (u3 qw12) qd12 (u3 r) u al
theorem qP12 (r : qF12 (Option β)) (c0 c1 c2 : D) : PT (qT12 u al r).sp u (qt12 c0 c1 c2) (qp12 qw12 c0 c1 c2) (qp12 r c0 c1 c2) := ⟨rfl, rfl⟩
theorem qa12 (r : qF12 (Option β)) : (qT12 u al r).sp.alias = al := rfl
attribute [go_sem] qw12 qp12 qt12 qP12 qa12
abbrev qF13 (β : Type) := Int → Int → Int → Int → Int → β
def qw13 (a0 a1 a2 a3 a4 : Int) : List Arg := [.agg [.int .i64 a0, .int .i64 a1, .int .i64 a2, .int .i64 a3], .ptr [.int .i64 a4]]
def qd13 (a : List Arg) := (dInt (aCell a 0 0), dInt (aCell a 0 1), dInt (aCell a 0 2), dInt (aCell a 0 3), dInt (aCell a 1 0))
def qp13 {β : Type} (f : qF13 β) (c0 c1 c2 c3 c4 : D) := f (dInt c0) (dInt c1) (dInt c2) (dInt c3) (dInt c4)
abbrev qt13 (c0 c1 c2 c3 c4 : D) : List Arg := [.agg [c0, c1, c2, c3], .ptr [c4]]
def qT13 (r : qF13 (Option β)) := mkT (u5 qw13) qd13 (u5 r) u al
theorem qP13 (r : qF13 (Option β)) (c0 c1 c2 c3 c4 : D) : PT (qT13 u al r).sp u (qt13 c0 c1 c2 c3 c4) (qp13 qw13 c0 c1 c2 c3 c4) (qp13 r c0 c1 c2 c3 c4) := ⟨rfl, rfl⟩
theorem qa13 (r : qF13 (Option β)) : (qT13 u al r).sp.alias = al := rfl
attribute [go_sem] qw13 qp13 qt13 qP13 qa13
abbrev qF15 (β : Type) := Int → Int → Int → β
def qw15 (a0 a1 a2 : Int) : List Arg := [.agg [.int .i64 a0, .int .i64 a1], .c (.int .i64 a2)]
def qd15 (a : List Arg) := (dInt (aCell a 0 0), dInt (aCell a 0 1), dInt (aCell a 1 0))
def qp15 {β : Type} (f : qF15 β) (c0 c1 c2 : D) := f (dInt c0) (dInt c1) (dInt c2)
abbrev qt15 (c0 c1 c2 : D) : List Arg := [.agg [c0, c1], .c c2]
def qT15 (r : qF15 (Option β)) := mkT (u3 qw15) qd15 (u3 r) u al
theorem qP15 (r : qF15 (Option β)) (c0 c1 c2 : D) : PT (qT15 u al r).sp u (qt15 c0 c1 c2) (qp15 qw15 c0 c1 c2) (qp15 r c0 c1 c2) := ⟨rfl, rfl⟩
theorem qa15 (r : qF15 (Option β)) : (qT15 u al r).sp.alias = al := rfl
attribute [go_sem] qw15 qp15 qt15 qP15 qa15
abbrev qF16 (β : Type) := Int → Int → Int → Int → Int → Int → β
def qw16 (a0 a1 a2 a3 a4 a5 : Int) : List Arg := [.agg [.int .i64 a0, .int .i64 a1, .int .i64 a2, .int .i64 a3, .int .i64 a4], .ptr [.int .i64 a5]]
def qd16 (a : List Arg) := (dInt (aCell a 0 0), dInt (aCell a 0 1), dInt (aCell a 0 2), dInt (aCell a 0 3), dInt (aCell a 0 4), dInt (aCell a 1 0))
def qp16 {β : Type} (f : qF16 β) (c0 c1 c2 c3 c4 c5 : D) := f (dInt c0) (dInt c1) (dInt c2) (dInt c3) (dInt c4) (dInt c5)
abbrev qt16 (c0 c1 c2 c3 c4 c5 : D) : List Arg := [.agg [c0, c1, c2, c3, c4], .ptr [c5]]
def qT16 (r : qF16 (Option β)) := mkT (u6 qw16) qd16 (u6 r) u al
theorem qP16 (r : qF16 (Option β)) (c0 c1 c2 c3 c4 c5 : D) : PT (qT16 u al r).sp u (qt16 c0 c1 c2 c3 c4 c5) (qp16 qw16 c0 c1 c2 c3 c4 c5) (qp16 r c0 c1 c2 c3 c4 c5) := ⟨rfl, rfl⟩
theorem qa16 (r : qF16 (Option β)) : (qT16 u al r).sp.alias = al := rfl
attribute [go_sem] qw16 qp16 qt16 qP16 qa16
abbrev qF17 (β : Type) := L_IIIII → Int → β
def qw17 (a0 : L_IIIII) (a1 : Int) : List Arg := [.c (encF 5 d_IIIII a0), .clo 72 [[.int .i64 a1]]]
def qd17 (a : List Arg) := (decF g_IIIII (aCell a 0 0), dInt (aCell a 1 0))
def qp17 {β : Type} (f : qF17 β) (c0 c1 : D) := f (decF g_IIIII c0) (dInt c1)
abbrev qt17 (c0 c1 : D) : List Arg := [.c c0, .clo 72 [[c1]]]
def qT17 (r : qF17 (Option β)) := mkT (u2 qw17) qd17 (u2 r) u al
theorem qP17 (r : qF17 (Option β)) (c0 c1 : D) : PT (qT17 u al r).sp u (qt17 c0 c1) (qp17 qw17 c0 c1) (qp17 r c0 c1) := ⟨rfl, rfl⟩
theorem qa17 (r : qF17 (Option β)) : (qT17 u al r).sp.alias = al := rfl
attribute [go_sem] qw17 qp17 qt17 qP17 qa17
def qu6 (v : (Option (Int × Int × Int × Int))) : List RV := [.c (.d (encP d_IIII v))]
attribute [go_sem] qu6
def qu7 (v : (Option (Int × Int × Int × Int × Int))) : List RV := [.c (.d (encP d_IIIII v))]
attribute [go_sem] qu7
end
/- slices.IsSorted[[]int,int] -/
def b57_1 (a0 : L_I) : Bd Int Bool := fun s1 =>
  if (decide (s1 > 0)) = true then
   if 0 ≤ s1 ∧ s1 < (a0.length : Int) then
    if 0 ≤ IntKind.i64.wrap (s1 - 1) ∧ IntKind.i64.wrap (s1 - 1) < (a0.length : Int) then
     bindC (r68 (a0.getD s1.toNat default) (a0.getD (IntKind.i64.wrap (s1 - 1)).toNat default)) fun v1 =>
      if v1 = true then
       .out (some false)
       else .next (IntKind.i64.wrap (s1 - 1))
     else .out none
    else .out none
   else .out (some true)
def r57 (a0 : L_I) : Option (Bool) :=
  iterC (b57_1 a0) 1000000000 (IntKind.i64.wrap ((a0.length : Int) - 1))
def T57 := qT6 qu3 false r57
attribute [go_sem] T57
def tb57 : Fns := lk [(68, T68.sp)]
theorem tb57_ok : FnsOk Tryd.prog tb57 := .cons f68 .nil
theorem tk57 : tb57 68 = some T68.sp := rfl
section
attribute [local go_sem] tk57 Tryd.results57
theorem f57 : FnFact Tryd.prog 57 T57.sp := by
  refine valid_m ty_ok tb57_ok Tryd.func57 rfl Tryd.ntmps57 fun a0 r hr => ⟨nL rfl, fun stop S => ?_⟩
  replace hr : r57 a0 = some r := hr
  unfold r57 at hr
  refine S.gx [] ?_
  refine gr ?_
  refine S.sees [0, 3] [] [] ?_ (Stop.iter S (fun s1 => ⟨[(0, .c (.d (encF 1 d_I a0))), (3, .c (.d (.int .i64 s1)))], [], []⟩) (b57_1 a0) (fun q => q = r) hr rfl ?_)
  · exact lf
  · intro s1 hr
    unfold b57_1 at hr
    refine S.gx [] ?_
    exact D1 (S.ss [0, 3] [] []) hr
end

/- martensite/steel.CheckRules -/
def b45_4 (x0 x1 x2 x3 : Int) (v1 : L_ILIIEI × L_ILIIEI × L_ILIIEI × L_ILIIEI) : Bd ((Option (Int × L_II × Int)) × Int) (Int × Int) := fun s4 =>
  if (decide (s4.2 < (v1.2.2.2.length : Int))) = true then
   if 0 ≤ s4.2 ∧ s4.2 < (v1.2.2.2.length : Int) then
    bindC (r55 ((v1.2.2.2.getD s4.2.toNat default).1) ((v1.2.2.2.getD s4.2.toNat default).2.1) ((v1.2.2.2.getD s4.2.toNat default).2.2) s4.1 0) fun v11 =>
     if (v11 != 0) = true then
      .out (some (s4.2, v11))
      else if 0 ≤ s4.2 ∧ s4.2 < (v1.2.2.2.length : Int) then
       .next (some ((v1.2.2.2.getD s4.2.toNat default).1, (v1.2.2.2.getD s4.2.toNat default).2.1, (v1.2.2.2.getD s4.2.toNat default).2.2), IntKind.i64.wrap (s4.2 + 1))
       else .out none
    else .out none
   else .out (if (decide ((v1.1.length : Int) > 0)) = true then
    if (decide ((v1.2.1.length : Int) > 0)) = true → 0 ≤ IntKind.i64.wrap ((v1.2.1.length : Int) - 1) ∧ IntKind.i64.wrap ((v1.2.1.length : Int) - 1) < (v1.2.1.length : Int) then
     if (decide ((v1.2.1.length : Int) > 0)) = true → 0 ≤ 0 ∧ 0 < (v1.1.length : Int) then
      if ((decide ((v1.2.1.length : Int) > 0)) && (decide (((v1.2.1.getD (IntKind.i64.wrap ((v1.2.1.length : Int) - 1)).toNat default).1) ≥ ((v1.1.getD 0 default).1)))) = true then
       some (0, 13)
       else if (decide ((v1.2.2.1.length : Int) > 0)) = true → 0 ≤ IntKind.i64.wrap ((v1.2.2.1.length : Int) - 1) ∧ IntKind.i64.wrap ((v1.2.2.1.length : Int) - 1) < (v1.2.2.1.length : Int) then
        if (decide ((v1.2.2.1.length : Int) > 0)) = true → 0 ≤ 0 ∧ 0 < (v1.1.length : Int) then
         if ((decide ((v1.2.2.1.length : Int) > 0)) && (decide (((v1.2.2.1.getD (IntKind.i64.wrap ((v1.2.2.1.length : Int) - 1)).toNat default).1) ≥ ((v1.1.getD 0 default).1)))) = true then
          some (0, 13)
          else if (decide ((v1.2.2.2.length : Int) > 0)) = true → 0 ≤ IntKind.i64.wrap ((v1.2.2.2.length : Int) - 1) ∧ IntKind.i64.wrap ((v1.2.2.2.length : Int) - 1) < (v1.2.2.2.length : Int) then
           if (decide ((v1.2.2.2.length : Int) > 0)) = true → 0 ≤ 0 ∧ 0 < (v1.1.length : Int) then
            if ((decide ((v1.2.2.2.length : Int) > 0)) && (decide (((v1.2.2.2.getD (IntKind.i64.wrap ((v1.2.2.2.length : Int) - 1)).toNat default).1) ≥ ((v1.1.getD 0 default).1)))) = true then
             some (0, 13)
             else (r47 [x0, x1, x2, x3]).bind fun v14 =>
              (r19 (!v14) 2).bind fun v15 =>
               (r57 [x0, x1, x2, x3]).bind fun v16 =>
                (r19 v16 9).bind fun v17 =>
                 (r17 [v15, v17]).bind fun v18 =>
                  some (0, v18)
            else none
           else none
         else none
        else none
      else none
     else none
    else (r47 [x0, x1, x2, x3]).bind fun v25 =>
     (r19 (!v25) 2).bind fun v26 =>
      (r57 [x0, x1, x2, x3]).bind fun v27 =>
       (r19 v27 9).bind fun v28 =>
        (r17 [v26, v28]).bind fun v29 =>
         some (0, v29))
def b45_3 (x0 x1 x2 x3 : Int) (v1 : L_ILIIEI × L_ILIIEI × L_ILIIEI × L_ILIIEI) : Bd ((Option (Int × L_II × Int)) × Int) (Int × Int) := fun s3 =>
  if (decide (s3.2 < (v1.2.2.1.length : Int))) = true then
   if 0 ≤ s3.2 ∧ s3.2 < (v1.2.2.1.length : Int) then
    bindC (r55 ((v1.2.2.1.getD s3.2.toNat default).1) ((v1.2.2.1.getD s3.2.toNat default).2.1) ((v1.2.2.1.getD s3.2.toNat default).2.2) s3.1 (-1)) fun v8 =>
     if (v8 != 0) = true then
      .out (some (s3.2, v8))
      else if 0 ≤ s3.2 ∧ s3.2 < (v1.2.2.1.length : Int) then
       .next (some ((v1.2.2.1.getD s3.2.toNat default).1, (v1.2.2.1.getD s3.2.toNat default).2.1, (v1.2.2.1.getD s3.2.toNat default).2.2), IntKind.i64.wrap (s3.2 + 1))
       else .out none
    else .out none
   else .out (iterC (b45_4 x0 x1 x2 x3 v1) 1000000000 (none, 0))
def b45_2 (x0 x1 x2 x3 : Int) (v1 : L_ILIIEI × L_ILIIEI × L_ILIIEI × L_ILIIEI) : Bd ((Option (Int × L_II × Int)) × Int) (Int × Int) := fun s2 =>
  if (decide (s2.2 < (v1.2.1.length : Int))) = true then
   if 0 ≤ s2.2 ∧ s2.2 < (v1.2.1.length : Int) then
    bindC (r55 ((v1.2.1.getD s2.2.toNat default).1) ((v1.2.1.getD s2.2.toNat default).2.1) ((v1.2.1.getD s2.2.toNat default).2.2) s2.1 0) fun v5 =>
     if (v5 != 0) = true then
      .out (some (s2.2, v5))
      else if 0 ≤ s2.2 ∧ s2.2 < (v1.2.1.length : Int) then
       .next (some ((v1.2.1.getD s2.2.toNat default).1, (v1.2.1.getD s2.2.toNat default).2.1, (v1.2.1.getD s2.2.toNat default).2.2), IntKind.i64.wrap (s2.2 + 1))
       else .out none
    else .out none
   else .out (iterC (b45_3 x0 x1 x2 x3 v1) 1000000000 (none, 0))
def b45_1 (x0 x1 x2 x3 : Int) (v1 : L_ILIIEI × L_ILIIEI × L_ILIIEI × L_ILIIEI) : Bd ((Option (Int × L_II × Int)) × Int) (Int × Int) := fun s1 =>
  if (decide (s1.2 < (v1.1.length : Int))) = true then
   if 0 ≤ s1.2 ∧ s1.2 < (v1.1.length : Int) then
    bindC (r55 ((v1.1.getD s1.2.toNat default).1) ((v1.1.getD s1.2.toNat default).2.1) ((v1.1.getD s1.2.toNat default).2.2) s1.1 1) fun v2 =>
     if (v2 != 0) = true then
      .out (some (s1.2, v2))
      else if 0 ≤ s1.2 ∧ s1.2 < (v1.1.length : Int) then
       .next (some ((v1.1.getD s1.2.toNat default).1, (v1.1.getD s1.2.toNat default).2.1, (v1.1.getD s1.2.toNat default).2.2), IntKind.i64.wrap (s1.2 + 1))
       else .out none
    else .out none
   else .out (iterC (b45_2 x0 x1 x2 x3 v1) 1000000000 (none, 0))
def r45 (x4 : L_IIII) (x5 : L_IIIII) (x6 : L_III) (x7 : L_II) (x0 x1 x2 x3 : Int) : Option (Int × Int) :=
  (r54 x4 x5 x6 x7 x0 x1 x2 x3).bind fun v1 =>
   if (decide ((v1.1.length : Int) > 8)) = true then
    some (0, 8)
    else if (decide ((v1.2.1.length : Int) > 8)) = true then
     some (0, 8)
     else if (decide ((v1.2.2.1.length : Int) > 8)) = true then
      some (0, 8)
      else if (decide ((v1.2.2.2.length : Int) > 8)) = true then
       some (0, 8)
       else iterC (b45_1 x0 x1 x2 x3 v1) 1000000000 (none, 0)
def T45 := qT1 qu5 false r45
attribute [go_sem] T45
def tb45 : Fns := lk [(17, T17.sp), (19, T19.sp), (47, T47.sp), (54, T54.sp), (55, T55.sp), (57, T57.sp)]
theorem tb45_ok : FnsOk Tryd.prog tb45 := .cons f17 (.cons f19 (.cons f47 (.cons f54 (.cons f55 (.cons f57 .nil)))))
theorem tk45 : tb45 17 = some T17.sp ∧ tb45 19 = some T19.sp ∧ tb45 47 = some T47.sp ∧ tb45 54 = some T54.sp ∧ tb45 55 = some T55.sp ∧ tb45 57 = some T57.sp := ⟨rfl, rfl, rfl, rfl, rfl, rfl⟩
section
attribute [local go_sem] tk45 Tryd.results45
theorem f45 : FnFact Tryd.prog 45 T45.sp := by
  refine valid_m ty_ok tb45_ok Tryd.func45 rfl Tryd.ntmps45 fun ⟨x4, x5, x6, x7, x0, x1, x2, x3⟩ r hr => ⟨nL rfl, fun stop S => ?_⟩
  replace hr : r45 x4 x5 x6 x7 x0 x1 x2 x3 = some r := hr
  unfold r45 at hr
  refine S.gx [26, 27] ?_
  obtain ⟨v1, hv1, hr⟩ := of_bind0 hr
  refine gb hv1 ?_
  refine S.lp ?_
  refine S.gx [26, 27] ?_
  refine gr ?_
  refine iW hr (fun hc hr => D0 hr) fun hc hr => ?_
  refine gr ?_
  refine S.lp ?_
  refine S.gx [26, 27] ?_
  refine gr ?_
  refine iW hr (fun hc hr => D0 hr) fun hc hr => ?_
  refine gr ?_
  refine S.lp ?_
  refine S.gx [26, 27] ?_
  refine gr ?_
  refine iW hr (fun hc hr => D0 hr) fun hc hr => ?_
  refine gr ?_
  refine S.lp ?_
  refine S.gx [26, 27] ?_
  refine gr ?_
  refine iW hr (fun hc hr => D0 hr) fun hc hr => ?_
  refine gr ?_
  refine S.lp ?_
  refine S.gx [26, 27] ?_
  refine gr ?_
  refine S.lp ?_
  refine S.gx [26, 27] ?_
  refine gr ?_
  refine S.share 16 rfl ?_
  refine S.sees [1, 4, 7, 8, 9, 25, 26, 31, 32] [(1, 1), (4, 4)] [(16, 16), (10016, 10016), (20016, 20016), (30016, 30016)] ?_ (Stop.iter S (fun s1 => ⟨[(1, .c (.ref 1 0)), (4, .c (.ref 4 0)), (7, .c (.d (.int .i64 0))), (8, .c (.own 16)), (9, .c (.d (encP d_ILIIEI s1.1))), (25, .agg [.own 16, .own 10016, .own 20016, .own 30016]), (26, .c (.d (.int .i64 0))), (31, .c (.d (.int .i64 (v1.1.length : Int)))), (32, .c (.d (.int .i64 s1.2)))], [(1, [.d (encF 4 d_IIII x4), .d (encF 5 d_IIIII x5), .d (encF 3 d_III x6), .d (encF 2 d_II x7), .d (.int .i64 x0), .d (.int .i64 x1), .d (.int .i64 x2), .d (.int .i64 x3)]), (4, [.own 16, .own 10016, .own 20016, .own 30016])], [(16, .shared (encF 3 d_ILIIEI v1.1)), (10016, .owned (encF 3 d_ILIIEI v1.2.1)), (20016, .owned (encF 3 d_ILIIEI v1.2.2.1)), (30016, .owned (encF 3 d_ILIIEI v1.2.2.2))]⟩) (b45_1 x0 x1 x2 x3 v1) (fun q => q = r) hr rfl ?_)
  · exact lf
  · intro s1 hr
    unfold b45_1 at hr
    refine S.gx [26, 27] ?_
    refine gr ?_
    refine iW1 hr (fun hc hr => D1 (S.ss [1, 4, 7, 8, 9, 25, 26, 31, 32] [(1, 1), (4, 4)] [(16, 16), (10016, 10016), (20016, 20016), (30016, 30016)]) hr) fun hc hr => ?_
    refine gr ?_
    have hr := of_out0 hr
    refine gr ?_
    refine S.lp ?_
    refine S.gx [26, 27] ?_
    refine gr ?_
    refine S.share 10016 rfl ?_
    refine S.sees [1, 4, 7, 8, 9, 25, 26, 31, 32] [(1, 1), (4, 4)] [(10016, 10016), (16, 16), (20016, 20016), (30016, 30016)] ?_ (Stop.iter S (fun s2 => ⟨[(1, .c (.ref 1 0)), (4, .c (.ref 4 0)), (7, .c (.d (.int .i64 1))), (8, .c (.own 10016)), (9, .c (.d (encP d_ILIIEI s2.1))), (25, .agg [.own 16, .own 10016, .own 20016, .own 30016]), (26, .c (.d (.int .i64 1))), (31, .c (.d (.int .i64 (v1.2.1.length : Int)))), (32, .c (.d (.int .i64 s2.2)))], [(1, [.d (encF 4 d_IIII x4), .d (encF 5 d_IIIII x5), .d (encF 3 d_III x6), .d (encF 2 d_II x7), .d (.int .i64 x0), .d (.int .i64 x1), .d (.int .i64 x2), .d (.int .i64 x3)]), (4, [.own 16, .own 10016, .own 20016, .own 30016])], [(10016, .shared (encF 3 d_ILIIEI v1.2.1)), (16, .shared (encF 3 d_ILIIEI v1.1)), (20016, .owned (encF 3 d_ILIIEI v1.2.2.1)), (30016, .owned (encF 3 d_ILIIEI v1.2.2.2))]⟩) (b45_2 x0 x1 x2 x3 v1) (fun q => q = r) hr rfl ?_)
    · exact lf
    · intro s2 hr
      unfold b45_2 at hr
      refine S.gx [26, 27] ?_
      refine gr ?_
      refine iW1 hr (fun hc hr => D1 (S.ss [1, 4, 7, 8, 9, 25, 26, 31, 32] [(1, 1), (4, 4)] [(10016, 10016), (16, 16), (20016, 20016), (30016, 30016)]) hr) fun hc hr => ?_
      refine gr ?_
      have hr := of_out0 hr
      refine gr ?_
      refine S.lp ?_
      refine S.gx [26, 27] ?_
      refine gr ?_
      refine S.share 20016 rfl ?_
      refine S.sees [1, 4, 7, 8, 9, 25, 26, 31, 32] [(1, 1), (4, 4)] [(20016, 20016), (16, 16), (10016, 10016), (30016, 30016)] ?_ (Stop.iter S (fun s3 => ⟨[(1, .c (.ref 1 0)), (4, .c (.ref 4 0)), (7, .c (.d (.int .i64 2))), (8, .c (.own 20016)), (9, .c (.d (encP d_ILIIEI s3.1))), (25, .agg [.own 16, .own 10016, .own 20016, .own 30016]), (26, .c (.d (.int .i64 2))), (31, .c (.d (.int .i64 (v1.2.2.1.length : Int)))), (32, .c (.d (.int .i64 s3.2)))], [(1, [.d (encF 4 d_IIII x4), .d (encF 5 d_IIIII x5), .d (encF 3 d_III x6), .d (encF 2 d_II x7), .d (.int .i64 x0), .d (.int .i64 x1), .d (.int .i64 x2), .d (.int .i64 x3)]), (4, [.own 16, .own 10016, .own 20016, .own 30016])], [(20016, .shared (encF 3 d_ILIIEI v1.2.2.1)), (16, .shared (encF 3 d_ILIIEI v1.1)), (10016, .shared (encF 3 d_ILIIEI v1.2.1)), (30016, .owned (encF 3 d_ILIIEI v1.2.2.2))]⟩) (b45_3 x0 x1 x2 x3 v1) (fun q => q = r) hr rfl ?_)
      · exact lf
      · intro s3 hr
        unfold b45_3 at hr
        refine S.gx [26, 27] ?_
        refine gr ?_
        refine iW1 hr (fun hc hr => D1 (S.ss [1, 4, 7, 8, 9, 25, 26, 31, 32] [(1, 1), (4, 4)] [(20016, 20016), (16, 16), (10016, 10016), (30016, 30016)]) hr) fun hc hr => ?_
        refine gr ?_
        have hr := of_out0 hr
        refine gr ?_
        refine S.lp ?_
        refine S.gx [26, 27] ?_
        refine gr ?_
        refine S.share 30016 rfl ?_
        refine S.sees [1, 4, 7, 8, 9, 25, 26, 31, 32] [(1, 1), (4, 4)] [(30016, 30016), (16, 16), (10016, 10016), (20016, 20016)] ?_ (Stop.iter S (fun s4 => ⟨[(1, .c (.ref 1 0)), (4, .c (.ref 4 0)), (7, .c (.d (.int .i64 3))), (8, .c (.own 30016)), (9, .c (.d (encP d_ILIIEI s4.1))), (25, .agg [.own 16, .own 10016, .own 20016, .own 30016]), (26, .c (.d (.int .i64 3))), (31, .c (.d (.int .i64 (v1.2.2.2.length : Int)))), (32, .c (.d (.int .i64 s4.2)))], [(1, [.d (encF 4 d_IIII x4), .d (encF 5 d_IIIII x5), .d (encF 3 d_III x6), .d (encF 2 d_II x7), .d (.int .i64 x0), .d (.int .i64 x1), .d (.int .i64 x2), .d (.int .i64 x3)]), (4, [.own 16, .own 10016, .own 20016, .own 30016])], [(30016, .shared (encF 3 d_ILIIEI v1.2.2.2)), (16, .shared (encF 3 d_ILIIEI v1.1)), (10016, .shared (encF 3 d_ILIIEI v1.2.1)), (20016, .shared (encF 3 d_ILIIEI v1.2.2.1))]⟩) (b45_4 x0 x1 x2 x3 v1) (fun q => q = r) hr rfl ?_)
        · exact lf
        · intro s4 hr
          unfold b45_4 at hr
          refine S.gx [26, 27] ?_
          refine gr ?_
          refine iW1 hr (fun hc hr => D1 (S.ss [1, 4, 7, 8, 9, 25, 26, 31, 32] [(1, 1), (4, 4)] [(30016, 30016), (16, 16), (10016, 10016), (20016, 20016)]) hr) fun hc hr => ?_
          refine gr ?_
          have hr := of_out0 hr
          refine gr ?_
          refine S.lp ?_
          refine S.gx [26, 27] ?_
          refine gr ?_
          refine iW hr (fun hc hr => ?_) fun hc hr => D0 hr
          refine gr ?_
          refine S.lp ?_
          refine S.gx [26, 27] ?_
          obtain ⟨hg23, hr⟩ := of_guard0 hr
          obtain ⟨hg24, hr⟩ := of_guard0 hr
          repeat (first | refine gG hg23 ?_ | refine gG hg24 ?_ | refine gA ?_ | refine gB ?_)
          refine iW hr (fun hc hr => ?_) fun hc hr => ?_
          · refine gr ?_
            refine S.prune [] ?_
            refine S.gx [27] ?_
            exact D0 hr
          · refine gr ?_
            refine S.prune [1, 4, 57, 58, 59] ?_
            refine S.gx [26] ?_
            refine gr ?_
            refine gr ?_
            refine S.lp ?_
            refine S.gx [26, 27] ?_
            obtain ⟨hg21, hr⟩ := of_guard0 hr
            obtain ⟨hg22, hr⟩ := of_guard0 hr
            repeat (first | refine gG hg21 ?_ | refine gG hg22 ?_ | refine gA ?_ | refine gB ?_)
            refine iW hr (fun hc hr => ?_) fun hc hr => ?_
            · refine gr ?_
              refine S.prune [] ?_
              refine S.gx [27] ?_
              exact D0 hr
            · refine gr ?_
              refine S.prune [1, 4, 57, 58, 59] ?_
              refine S.gx [26] ?_
              refine gr ?_
              refine gr ?_
              refine S.lp ?_
              refine S.gx [26, 27] ?_
              obtain ⟨hg19, hr⟩ := of_guard0 hr
              obtain ⟨hg20, hr⟩ := of_guard0 hr
              repeat (first | refine gG hg19 ?_ | refine gG hg20 ?_ | refine gA ?_ | refine gB ?_)
              refine iW hr (fun hc hr => ?_) fun hc hr => ?_
              · refine gr ?_
                refine S.prune [] ?_
                refine S.gx [27] ?_
                exact D0 hr
              · refine gr ?_
                refine S.prune [1, 4, 57, 58, 59] ?_
                refine S.gx [26] ?_
                refine gr ?_
                refine gr ?_
                refine S.lp ?_
                refine S.gx [26, 27] ?_
                exact D0 hr
end

/- martensite/steel.rulesErr -/
def r29 (x0 : L_IIII) (x1 : L_IIIII) (x2 : L_III) (x3 : L_II) (x4 x5 x6 x7 : Int) : Option (Int) :=
  (r45 x0 x1 x2 x3 x4 x5 x6 x7).bind fun v1 =>
   some v1.2
def T29 := qT1 qu4 false r29
attribute [go_sem] T29
def tb29 : Fns := lk [(45, T45.sp)]
theorem tb29_ok : FnsOk Tryd.prog tb29 := .cons f45 .nil
theorem tk29 : tb29 45 = some T45.sp := rfl
section
attribute [local go_sem] tk29 Tryd.results29
theorem f29 : FnFact Tryd.prog 29 T29.sp := by
  refine valid_m ty_ok tb29_ok Tryd.func29 rfl Tryd.ntmps29 fun ⟨x0, x1, x2, x3, x4, x5, x6, x7⟩ r hr => ⟨nL rfl, fun stop S => ?_⟩
  replace hr : r29 x0 x1 x2 x3 x4 x5 x6 x7 = some r := hr
  unfold r29 at hr
  refine S.gx [] ?_
  exact D0 hr
end

/- martensite/steel.CheckState -/
def r30 (x5 x0 x1 x2 x3 x4 x6 : Int) : Option (Int) :=
  (r46 x5).bind fun v1 =>
   if v1 = true → (r46 x0).isSome = true then
    if (v1 && ((r46 x0).getD default)) = true → (r46 x1).isSome = true then
     if ((v1 && ((r46 x0).getD default)) && ((r46 x1).getD default)) = true → (r46 x2).isSome = true then
      if (((v1 && ((r46 x0).getD default)) && ((r46 x1).getD default)) && ((r46 x2).getD default)) = true → (r46 x3).isSome = true then
       if ((((v1 && ((r46 x0).getD default)) && ((r46 x1).getD default)) && ((r46 x2).getD default)) && ((r46 x3).getD default)) = true → (r21 x4 0 100000).isSome = true then
        if (((((v1 && ((r46 x0).getD default)) && ((r46 x1).getD default)) && ((r46 x2).getD default)) && ((r46 x3).getD default)) && ((r21 x4 0 100000).getD default)) = true → (r21 x6 0 1000000).isSome = true then
         if (!((((((v1 && ((r46 x0).getD default)) && ((r46 x1).getD default)) && ((r46 x2).getD default)) && ((r46 x3).getD default)) && ((r21 x4 0 100000).getD default)) && ((r21 x6 0 1000000).getD default))) = true then
          some 2
          else (r19 ((IntKind.i64.wrap ((IntKind.i64.wrap ((IntKind.i64.wrap (x5 + x0)) + x1)) + x2)) == 1000000) 3).bind fun v2 =>
           some v2
         else none
        else none
       else none
      else none
     else none
    else none
def T30 := qT10 qu4 false r30
attribute [go_sem] T30
def tb30 : Fns := lk [(19, T19.sp), (21, T21.sp), (46, T46.sp)]
theorem tb30_ok : FnsOk Tryd.prog tb30 := .cons f19 (.cons f21 (.cons f46 .nil))
theorem tk30 : tb30 19 = some T19.sp ∧ tb30 21 = some T21.sp ∧ tb30 46 = some T46.sp := ⟨rfl, rfl, rfl⟩
section
attribute [local go_sem] tk30 Tryd.results30
theorem f30 : FnFact Tryd.prog 30 T30.sp := by
  refine valid_m ty_ok tb30_ok Tryd.func30 rfl Tryd.ntmps30 fun ⟨x5, x0, x1, x2, x3, x4, x6⟩ r hr => ⟨nL rfl, fun stop S => ?_⟩
  replace hr : r30 x5 x0 x1 x2 x3 x4 x6 = some r := hr
  unfold r30 at hr
  refine S.gx [2] ?_
  obtain ⟨v1, hv1, hr⟩ := of_bind0 hr
  obtain ⟨hg3, hr⟩ := of_guard0 hr
  obtain ⟨hg4, hr⟩ := of_guard0 hr
  obtain ⟨hg5, hr⟩ := of_guard0 hr
  obtain ⟨hg6, hr⟩ := of_guard0 hr
  obtain ⟨hg7, hr⟩ := of_guard0 hr
  obtain ⟨hg8, hr⟩ := of_guard0 hr
  try simp only [hv1, oG, oI, true_and, and_assoc]
  repeat (first | refine gG hg3 ?_ | refine gG hg4 ?_ | refine gG hg5 ?_ | refine gG hg6 ?_ | refine gG hg7 ?_ | refine gG hg8 ?_ | refine gA ?_ | refine gB ?_)
  refine S.prune [1, 3] ?_
  refine S.gx [] ?_
  exact D0 hr
end

/- martensite/steel.curveErr$1 -/
def r48 (a0 : Int) : Option (Bool) :=
  (r44 a0).bind fun v1 =>
   some (!v1)
def T48 := qT3 qu3 false r48
attribute [go_sem] T48
def tb48 : Fns := lk [(44, T44.sp)]
theorem tb48_ok : FnsOk Tryd.prog tb48 := .cons f44 .nil
theorem tk48 : tb48 44 = some T44.sp := rfl
section
attribute [local go_sem] tk48 Tryd.results48
theorem f48 : FnFact Tryd.prog 48 T48.sp := by
  refine valid_m ty_ok tb48_ok Tryd.func48 rfl Tryd.ntmps48 fun a0 r hr => ⟨nL rfl, fun stop S => ?_⟩
  replace hr : r48 a0 = some r := hr
  unfold r48 at hr
  refine S.gx [] ?_
  exact D0 hr
end

/- slices.IndexFunc[[]int,int] -/
def b58a_1 (a0 : L_I) : Bd Int Int := fun s1 =>
  if (decide (s1 < (a0.length : Int))) = true then
   if 0 ≤ s1 ∧ s1 < (a0.length : Int) then
    bindC (r48 (a0.getD s1.toNat default)) fun v1 =>
     if v1 = true then
      .out (some s1)
      else .next (IntKind.i64.wrap (s1 + 1))
    else .out none
   else .out (some (-1))
def r58a (a0 : L_I) : Option (Int) :=
  iterC (b58a_1 a0) 1000000000 0
def T58a := qT11 qu4 false r58a
attribute [go_sem] T58a
def tb58a : Fns := lk [(48, T48.sp)]
theorem tb58a_ok : FnsOk Tryd.prog tb58a := .cons f48 .nil
theorem tk58a : tb58a 48 = some T48.sp := rfl
section
attribute [local go_sem] tk58a Tryd.results58
theorem f58a : FnFact Tryd.prog 58 T58a.sp := by
  refine valid_m ty_ok tb58a_ok Tryd.func58 rfl Tryd.ntmps58 fun a0 r hr => ⟨nL rfl, fun stop S => ?_⟩
  replace hr : r58a a0 = some r := hr
  unfold r58a at hr
  refine S.gx [] ?_
  refine gr ?_
  refine S.sees [0, 1, 7, 8] [] [] ?_ (Stop.iter S (fun s1 => ⟨[(0, .c (.d (encF 1 d_I a0))), (1, .c (.clo 48 [])), (7, .c (.d (.int .i64 (a0.length : Int)))), (8, .c (.d (.int .i64 s1)))], [], []⟩) (b58a_1 a0) (fun q => q = r) hr rfl ?_)
  · exact lf
  · intro s1 hr
    unfold b58a_1 at hr
    refine S.gx [] ?_
    exact D1 (S.ss [0, 1, 7, 8] [] []) hr
end

/- slices.ContainsFunc[[]int,int] -/
def r47a (a0 : L_I) : Option (Bool) :=
  (r58a a0).bind fun v1 =>
   some (decide (v1 ≥ 0))
def T47a := qT11 qu3 false r47a
attribute [go_sem] T47a
def tb47a : Fns := lk [(58, T58a.sp)]
theorem tb47a_ok : FnsOk Tryd.prog tb47a := .cons f58a .nil
theorem tk47a : tb47a 58 = some T58a.sp := rfl
section
attribute [local go_sem] tk47a Tryd.results47
theorem f47a : FnFact Tryd.prog 47 T47a.sp := by
  refine valid_m ty_ok tb47a_ok Tryd.func47 rfl Tryd.ntmps47 fun a0 r hr => ⟨nL rfl, fun stop S => ?_⟩
  replace hr : r47a a0 = some r := hr
  unfold r47a at hr
  refine S.gx [] ?_
  exact D0 hr
end

/- martensite/steel.curveErr -/
def r31 (a0 : L_I) : Option (Int) :=
  (r47a a0).bind fun v1 =>
   (r19 (decide ((a0.length : Int) ≤ 200)) 8).bind fun v2 =>
    (r19 (!v1) 2).bind fun v3 =>
     (r17 [v2, v3]).bind fun v4 =>
      some v4
def T31 := qT6 qu4 false r31
attribute [go_sem] T31
def tb31 : Fns := lk [(17, T17.sp), (19, T19.sp), (47, T47a.sp)]
theorem tb31_ok : FnsOk Tryd.prog tb31 := .cons f17 (.cons f19 (.cons f47a .nil))
theorem tk31 : tb31 17 = some T17.sp ∧ tb31 19 = some T19.sp ∧ tb31 47 = some T47a.sp := ⟨rfl, rfl, rfl⟩
section
attribute [local go_sem] tk31 Tryd.results31
theorem f31 : FnFact Tryd.prog 31 T31.sp := by
  refine valid_m ty_ok tb31_ok Tryd.func31 rfl Tryd.ntmps31 fun a0 r hr => ⟨nL rfl, fun stop S => ?_⟩
  replace hr : r31 a0 = some r := hr
  unfold r31 at hr
  refine S.gx [] ?_
  exact D0 hr
end

/- martensite/steel.CheckPick$1 -/
def r49 (a0 : Int) : Option (Bool) :=
  (r21 a0 0 1000).bind fun v1 =>
   some v1
def T49 := qT3 qu3 false r49
attribute [go_sem] T49
def tb49 : Fns := lk [(21, T21.sp)]
theorem tb49_ok : FnsOk Tryd.prog tb49 := .cons f21 .nil
theorem tk49 : tb49 21 = some T21.sp := rfl
section
attribute [local go_sem] tk49 Tryd.results49
theorem f49 : FnFact Tryd.prog 49 T49.sp := by
  refine valid_m ty_ok tb49_ok Tryd.func49 rfl Tryd.ntmps49 fun a0 r hr => ⟨nL rfl, fun stop S => ?_⟩
  replace hr : r49 a0 = some r := hr
  unfold r49 at hr
  refine S.gx [] ?_
  exact D0 hr
end

/- martensite/steel.CheckPick -/
def r32 (x2 x0 x1 : Int) : Option (Int) :=
  (r49 x2).bind fun v1 =>
   if v1 = true → (r49 x0).isSome = true then
    if (v1 && ((r49 x0).getD default)) = true → (r49 x1).isSome = true then
     (r19 ((v1 && ((r49 x0).getD default)) && ((r49 x1).getD default)) 2).bind fun v2 =>
      some v2
     else none
    else none
def T32 := qT12 qu4 false r32
attribute [go_sem] T32
def tb32 : Fns := lk [(19, T19.sp), (49, T49.sp)]
theorem tb32_ok : FnsOk Tryd.prog tb32 := .cons f19 (.cons f49 .nil)
theorem tk32 : tb32 19 = some T19.sp ∧ tb32 49 = some T49.sp := ⟨rfl, rfl⟩
section
attribute [local go_sem] tk32 Tryd.results32
theorem f32 : FnFact Tryd.prog 32 T32.sp := by
  refine valid_m ty_ok tb32_ok Tryd.func32 rfl Tryd.ntmps32 fun ⟨x2, x0, x1⟩ r hr => ⟨nL rfl, fun stop S => ?_⟩
  replace hr : r32 x2 x0 x1 = some r := hr
  unfold r32 at hr
  refine S.gx [] ?_
  obtain ⟨v1, hv1, hr⟩ := of_bind0 hr
  obtain ⟨hg3, hr⟩ := of_guard0 hr
  obtain ⟨hg4, hr⟩ := of_guard0 hr
  obtain ⟨v2, hv2, hr⟩ := of_bind0 hr
  try simp only [hv1, hv2, Option.getD_some, Option.isSome_some, true_and, and_assoc]
  repeat (first | refine gG hg3 ?_ | refine gG hg4 ?_ | refine gA ?_ | refine gB ?_)
  exact D0 hr
end

/- (martensite/steel.rules).heat$1 -/
def r70 (x0 x2 x3 x4 x1 : Int) : Option (Bool) :=
  some (decide (x0 ≤ x1))
def T70 := qT13 qu3 false r70
attribute [go_sem] T70
def tb70 : Fns := lk []
theorem tb70_ok : FnsOk Tryd.prog tb70 := FnsOk.nil
section
attribute [local go_sem] Tryd.results70
theorem f70 : FnFact Tryd.prog 70 T70.sp := by
  refine valid_m ty_ok tb70_ok Tryd.func70 rfl Tryd.ntmps70 fun ⟨x0, x2, x3, x4, x1⟩ r hr => ⟨nL rfl, fun stop S => ?_⟩
  replace hr : r70 x0 x2 x3 x4 x1 = some r := hr
  unfold r70 at hr
  refine S.gx [] ?_
  exact D0 hr
end

/- (martensite/steel.rules).heat -/
def b59_1 (x0 : L_IIII) (a1 : Int) : Bd Int (Option (Int × Int × Int × Int)) := fun s1 =>
  if (decide (s1 ≥ 0)) = true then
   if 0 ≤ s1 ∧ s1 < (x0.length : Int) then
    if 0 ≤ s1 ∧ s1 < (x0.length : Int) then
     bindC (r70 ((x0.getD s1.toNat default).1) ((x0.getD s1.toNat default).2.1) ((x0.getD s1.toNat default).2.2.1) ((x0.getD s1.toNat default).2.2.2) a1) fun v1 =>
      if v1 = true then
       if 0 ≤ s1 ∧ s1 < (x0.length : Int) then
        .out (some (some ((x0.getD s1.toNat default).1, (x0.getD s1.toNat default).2.1, (x0.getD s1.toNat default).2.2.1, (x0.getD s1.toNat default).2.2.2)))
        else .out none
       else .next (IntKind.i64.wrap (s1 - 1))
     else .out none
    else .out none
   else .out (some none)
def r59 (x0 : L_IIII) (x1 : L_IIIII) (x2 : L_III) (x3 : L_II) (x4 x5 x6 x7 a1 : Int) : Option ((Option (Int × Int × Int × Int))) :=
  iterC (b59_1 x0 a1) 1000000000 (IntKind.i64.wrap ((x0.length : Int) - 1))
def T59 := qT14 qu6 true r59
attribute [go_sem] T59
def tb59 : Fns := lk [(70, T70.sp)]
theorem tb59_ok : FnsOk Tryd.prog tb59 := .cons f70 .nil
theorem tk59 : tb59 70 = some T70.sp := rfl
section
attribute [local go_sem] tk59 Tryd.results59 Tryd.results69 Tryd.results78 Tryd.results82
theorem f59 : FnFact Tryd.prog 59 T59.sp := by
  refine valid_m ty_ok tb59_ok Tryd.func59 rfl Tryd.ntmps59 fun ⟨x0, x1, x2, x3, x4, x5, x6, x7, a1⟩ r hr => ⟨nL rfl, fun stop S => ?_⟩
  replace hr : r59 x0 x1 x2 x3 x4 x5 x6 x7 a1 = some r := hr
  unfold r59 at hr
  refine S.gx [1] ?_
  refine gr ?_
  refine S.inl 4 [4] [] Tryd.func69 (by decide) rfl Tryd.ntmps69 (fun cx e => drawn_ok ty_ok tb59_ok cx e) (some 9) rfl rfl rfl rfl (nL rfl) (nL rfl) ?_
  refine gs ?_
  refine gr ?_
  intro stop1 S1
  refine S1.gx [1, 3] ?_
  refine gr ?_
  refine S1.inl 1 [2, 3, 4] [] Tryd.func78 (by decide) rfl Tryd.ntmps78 (fun cx e => drawn_ok ty_ok tb59_ok cx e) (some 7) rfl rfl rfl rfl (nL rfl) (nL rfl) ?_
  refine gs ?_
  refine gr ?_
  intro stop2 S2
  refine S2.gx [] ?_
  refine gr ?_
  refine gr ?_
  refine S1.gx [1, 3] ?_
  refine gr ?_
  refine S1.range [2, 3, 4] Tryd.func82 (by decide) rfl Tryd.ntmps82 Tryd.results82 (fun cx e => drawn_ok ty_ok tb59_ok cx e) (fun cx e => drawn_ok ty_ok tb59_ok cx e) (by decide) rfl rfl (nL rfl) ?_
  intro l2 stop2 stopJ2 S2 SJ2 Y2
  refine S2.gx [3] ?_
  refine gr ?_
  refine S2.sees [0, 1, 3] [(1, 1), (100002, 100002), (100003, 100003), (4, 4), (3, 3)] [] ?_ (Stop.iter S2 (fun s1 => ⟨[(0, .c (.yld l2)), (1, .c (.ref 1 0)), (3, .c (.d (.int .i64 s1)))], [(1, [.d (encF 4 d_IIII x0)]), (100002, [.d (encF 4 d_IIII x0)]), (100003, [.clo 70 [.ref 3 0]]), (4, [.d (encP d_IIII none)]), (3, [.d (.int .i64 a1)])], []⟩) (b59_1 x0 a1) (fun q => q = r) hr rfl ?_)
  · exact lf
  · intro s1 hr
    unfold b59_1 at hr
    refine S2.gx [3] ?_
    refine gr ?_
    refine iW1 hr (fun hc hr => ?_) fun hc hr => ?_
    · refine gr ?_
      refine Y2 6 [0, 1, 3] (some 17) rfl rfl rfl rfl (nL rfl) (by rfl) ?_
      refine gs ?_
      obtain ⟨hg4, hr⟩ := of_guard1 hr
      refine gr ?_
      intro stopA3 SA3
      refine SA3.gx [] ?_
      refine gr ?_
      intro stop3 S3
      refine S3.gx [1, 3] ?_
      refine gr ?_
      refine S3.gx [1] ?_
      obtain ⟨hg3, hr⟩ := of_guard1 hr
      obtain ⟨v1, hv1, hr⟩ := of_bind1 hr
      refine gb hv1 ?_
      refine gr ?_
      refine iW1 hr (fun hc hr => ?_) fun hc hr => ?_
      · obtain ⟨hg2, hr⟩ := of_guard1 hr
        refine gr ?_
        refine gr ?_
        refine (SJ2 .ret).gx [3] ?_
        refine gr ?_
        have hr := of_out0 hr
        refine gr ?_
        refine S1.gx [1, 3] ?_
        refine gr ?_
        refine gr ?_
        refine S.gx [1] ?_
        exact D0 hr
      · refine gr ?_
        refine gr ?_
        refine S2.gx [3] ?_
        exact D1 (S2.ss [0, 1, 3] [(1, 1), (100002, 100002), (100003, 100003), (4, 4), (3, 3)] []) hr
    · refine gr ?_
      have hr := of_out0 hr
      refine gr ?_
      refine gr ?_
      refine S1.gx [1, 3] ?_
      refine gr ?_
      refine gr ?_
      refine S.gx [1] ?_
      exact D0 hr
end

/- martensite/steel.picked -/
def r60 (x0 x1 a1 : Int) : Option (Int) :=
  some (IntKind.i64.wrap (x0 + (IntKind.i64.wrap ((IntKind.i64.wrap ((IntKind.i64.wrap (x1 - x0)) * a1)).tdiv 1000))))
def T60 := qT15 qu4 false r60
attribute [go_sem] T60
def tb60 : Fns := lk []
theorem tb60_ok : FnsOk Tryd.prog tb60 := FnsOk.nil
section
attribute [local go_sem] Tryd.results60
theorem f60 : FnFact Tryd.prog 60 T60.sp := by
  refine valid_m ty_ok tb60_ok Tryd.func60 rfl Tryd.ntmps60 fun ⟨x0, x1, a1⟩ r hr => ⟨nL rfl, fun stop S => ?_⟩
  replace hr : r60 x0 x1 a1 = some r := hr
  unfold r60 at hr
  refine S.gx [] ?_
  exact D0 hr
end

/- (martensite/steel.rules).cool$1 -/
def r72 (x0 x2 x3 x4 x5 x1 : Int) : Option (Bool) :=
  some (decide (x0 ≥ x1))
def T72 := qT16 qu3 false r72
attribute [go_sem] T72
def tb72 : Fns := lk []
theorem tb72_ok : FnsOk Tryd.prog tb72 := FnsOk.nil
section
attribute [local go_sem] Tryd.results72
theorem f72 : FnFact Tryd.prog 72 T72.sp := by
  refine valid_m ty_ok tb72_ok Tryd.func72 rfl Tryd.ntmps72 fun ⟨x0, x2, x3, x4, x5, x1⟩ r hr => ⟨nL rfl, fun stop S => ?_⟩
  replace hr : r72 x0 x2 x3 x4 x5 x1 = some r := hr
  unfold r72 at hr
  refine S.gx [] ?_
  exact D0 hr
end

/- slices.IndexFunc[[]martensite/api.SteelCool,martensite/api.SteelCool] -/
def b79_1 (a0 : L_IIIII) (x0 : Int) : Bd Int Int := fun s1 =>
  if (decide (s1 < (a0.length : Int))) = true then
   if 0 ≤ s1 ∧ s1 < (a0.length : Int) then
    bindC (r72 ((a0.getD s1.toNat default).1) ((a0.getD s1.toNat default).2.1) ((a0.getD s1.toNat default).2.2.1) ((a0.getD s1.toNat default).2.2.2.1) ((a0.getD s1.toNat default).2.2.2.2) x0) fun v1 =>
     if v1 = true then
      .out (some s1)
      else .next (IntKind.i64.wrap (s1 + 1))
    else .out none
   else .out (some (-1))
def r79 (a0 : L_IIIII) (x0 : Int) : Option (Int) :=
  iterC (b79_1 a0 x0) 1000000000 0
def T79 := qT17 qu4 false r79
attribute [go_sem] T79
def tb79 : Fns := lk [(72, T72.sp)]
theorem tb79_ok : FnsOk Tryd.prog tb79 := .cons f72 .nil
theorem tk79 : tb79 72 = some T72.sp := rfl
section
attribute [local go_sem] tk79 Tryd.results79
theorem f79 : FnFact Tryd.prog 79 T79.sp := by
  refine valid_m ty_ok tb79_ok Tryd.func79 rfl Tryd.ntmps79 fun ⟨a0, x0⟩ r hr => ⟨nL rfl, fun stop S => ?_⟩
  replace hr : r79 a0 x0 = some r := hr
  unfold r79 at hr
  refine S.gx [] ?_
  refine gr ?_
  refine S.sees [0, 1, 7, 8] [] [] ?_ (Stop.iter S (fun s1 => ⟨[(0, .c (.d (encF 5 d_IIIII a0))), (1, .c (.clo 72 [.sptr [.int .i64 x0] 0])), (7, .c (.d (.int .i64 (a0.length : Int)))), (8, .c (.d (.int .i64 s1)))], [], []⟩) (b79_1 a0 x0) (fun q => q = r) hr rfl ?_)
  · exact lf
  · intro s1 hr
    unfold b79_1 at hr
    refine S.gx [] ?_
    exact D1 (S.ss [0, 1, 7, 8] [] []) hr
end

/- (martensite/steel.rules).cool -/
def r61 (x1 : L_IIII) (x0 : L_IIIII) (x2 : L_III) (x3 : L_II) (x4 x5 x6 x7 a1 : Int) : Option ((Option (Int × Int × Int × Int × Int))) :=
  (r79 x0 a1).bind fun v1 =>
   if (decide (v1 ≥ 0)) = true then
    if 0 ≤ v1 ∧ v1 < (x0.length : Int) then
     some (some ((x0.getD v1.toNat default).1, (x0.getD v1.toNat default).2.1, (x0.getD v1.toNat default).2.2.1, (x0.getD v1.toNat default).2.2.2.1, (x0.getD v1.toNat default).2.2.2.2))
     else none
    else some none
def T61 := qT14 qu7 true r61
attribute [go_sem] T61
def tb61 : Fns := lk [(79, T79.sp)]
theorem tb61_ok : FnsOk Tryd.prog tb61 := .cons f79 .nil
theorem tk61 : tb61 79 = some T79.sp := rfl
section
attribute [local go_sem] tk61 Tryd.results61 Tryd.results71
theorem f61 : FnFact Tryd.prog 61 T61.sp := by
  refine valid_m ty_ok tb61_ok Tryd.func61 rfl Tryd.ntmps61 fun ⟨x1, x0, x2, x3, x4, x5, x6, x7, a1⟩ r hr => ⟨nL rfl, fun stop S => ?_⟩
  replace hr : r61 x1 x0 x2 x3 x4 x5 x6 x7 a1 = some r := hr
  unfold r61 at hr
  refine S.gx [1] ?_
  refine gr ?_
  refine S.inl 4 [4] [] Tryd.func71 (by decide) rfl Tryd.ntmps71 (fun cx e => drawn_ok ty_ok tb61_ok cx e) (some 9) rfl rfl rfl rfl (nL rfl) (nL rfl) ?_
  refine gs ?_
  refine gr ?_
  intro stop1 S1
  refine S1.gx [] ?_
  obtain ⟨v1, hv1, hr⟩ := of_bind0 hr
  refine gb hv1 ?_
  refine iW hr (fun hc hr => ?_) fun hc hr => ?_
  · obtain ⟨hg2, hr⟩ := of_guard0 hr
    refine gr ?_
    refine gr ?_
    refine S.gx [1] ?_
    exact D0 hr
  · refine gr ?_
    refine gr ?_
    refine S.gx [1] ?_
    exact D0 hr
end
end Go.Proofs.YthcpkkpjegldoaaDoor

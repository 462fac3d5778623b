/- Contracts of functions, written by wip/dec. -/
import Derived.Test.YthcpkkpjegldoaaDoorF00
import Derived.Test.YthcpkkpjegldoaaDoorF01
set_option linter.unusedVariables false
set_option linter.unusedSimpArgs false
set_option linter.constructorNameAsVariable false
set_option maxHeartbeats 4000000
set_option maxRecDepth 20000
namespace Go.Proofs.YthcpkkpjegldoaaDoor
open Go.Abs
section
variable {β : Type} [Inhabited β] (u : β → List RV) (al : Bool)
abbrev qF30 (β : Type) := ByteArray → β
def qw30 (a0 : ByteArray) : List Arg := [.c (.str a0)]
def qd30 (a : List Arg) := dStr (aCell a 0 0)
def qp30 {β : Type} (f : qF30 β) (c0 : D) := f (dStr c0)
abbrev qt30 (c0 : D) : List Arg := [.c c0]
def qT30 (r : qF30 (Option β)) := mkT (u1 qw30) qd30 (u1 r) u al
theorem qP30 (r : qF30 (Option β)) (c0 : D) : PT (qT30 u al r).sp u (qt30 c0) (qp30 qw30 c0) (qp30 r c0) := ⟨rfl, rfl⟩
theorem qa30 (r : qF30 (Option β)) : (qT30 u al r).sp.alias = al := rfl
attribute [go_sem] qw30 qp30 qt30 qP30 qa30
def qu15 (v : Int × L_SIII) : List RV := [.agg [.d (.int .i64 v.1), .own (encF 4 d_SIII v.2)]]
attribute [go_sem] qu15
end
/- martensite/martensiteref04.CopyAnalysis -/
def r6 (x1 : Int) (x0 : L_SIII) : Option (Int × L_SIII) :=
  if (0 + x0.length) * 40 ≤ 140737488355328 ∧ 0 + x0.length ≤ 9223372036854775807 then
   some (x1, x0)
   else none
def T6 := qT29 qu15 false r6
attribute [go_sem] T6
def tb6 : Fns := lk []
theorem tb6_ok : FnsOk Tryd.prog tb6 := FnsOk.nil
section
attribute [local go_sem] Tryd.results6
theorem f6 : FnFact Tryd.prog 6 T6.sp := by
  refine valid_m ty_ok tb6_ok Tryd.func6 rfl Tryd.ntmps6 fun ⟨x1, x0⟩ r hr => ⟨nL rfl, fun stop S => ?_⟩
  replace hr : r6 x1 x0 = some r := hr
  unfold r6 at hr
  refine S.gx [] ?_
  exact D0 hr
end

/- martensite/steel.kelvinErr -/
def r18 (a0 : Int) : Option (Int) :=
  (r44 a0).bind fun v1 =>
   (r19 v1 2).bind fun v2 =>
    some v2
def T18 := qT3 qu4 false r18
attribute [go_sem] T18
def tb18 : Fns := lk [(19, T19.sp), (44, T44.sp)]
theorem tb18_ok : FnsOk Tryd.prog tb18 := .cons f19 (.cons f44 .nil)
theorem tk18 : tb18 19 = some T19.sp ∧ tb18 44 = some T44.sp := ⟨rfl, rfl⟩
section
attribute [local go_sem] tk18 Tryd.results18
theorem f18 : FnFact Tryd.prog 18 T18.sp := by
  refine valid_m ty_ok tb18_ok Tryd.func18 rfl Tryd.ntmps18 fun a0 r hr => ⟨nL rfl, fun stop S => ?_⟩
  replace hr : r18 a0 = some r := hr
  unfold r18 at hr
  refine S.gx [] ?_
  exact D0 hr
end

/- martensite/steel.isName -/
def b22_1 (a0 : ByteArray) : Bd Int Bool := fun s1 =>
  if (decide (s1 < (a0.size : Int))) = true then
   if 0 ≤ s1 ∧ s1 < (a0.size : Int) then
    bindC (r21 (IntKind.i64.wrap (byteAt a0 s1.toNat)) 97 122) fun v1 =>
     if (!v1) = true → (r21 (IntKind.i64.wrap (byteAt a0 s1.toNat)) 65 90).isSome = true then
      if (((!(v1 || ((r21 (IntKind.i64.wrap (byteAt a0 s1.toNat)) 65 90).getD default))) && (!(s1 == 0))) && ((IntKind.i64.wrap (byteAt a0 s1.toNat)) != 45)) = true → (r21 (IntKind.i64.wrap (byteAt a0 s1.toNat)) 48 57).isSome = true then
       if ((!(v1 || ((r21 (IntKind.i64.wrap (byteAt a0 s1.toNat)) 65 90).getD default))) && ((s1 == 0) || (((IntKind.i64.wrap (byteAt a0 s1.toNat)) != 45) && (!((r21 (IntKind.i64.wrap (byteAt a0 s1.toNat)) 48 57).getD default))))) = true then
        .out (some false)
        else .next (IntKind.i64.wrap (s1 + 1))
       else .out none
      else .out none
    else .out none
   else .out ((r21 (a0.size : Int) 1 12).bind fun v5 =>
    some v5)
def r22 (a0 : ByteArray) : Option (Bool) :=
  iterC (b22_1 a0) 10000000000000000000 0
def T22 := qT30 qu3 false r22
attribute [go_sem] T22
def tb22 : Fns := lk [(21, T21.sp)]
theorem tb22_ok : FnsOk Tryd.prog tb22 := .cons f21 .nil
theorem tk22 : tb22 21 = some T21.sp := rfl
section
attribute [local go_sem] tk22 Tryd.results22
theorem f22 : FnFact Tryd.prog 22 T22.sp := by
  refine valid_m ty_ok tb22_ok Tryd.func22 rfl Tryd.ntmps22 fun a0 r hr => ⟨nL rfl, fun stop S => ?_⟩
  replace hr : r22 a0 = some r := hr
  unfold r22 at hr
  refine S.gx [7, 8] ?_
  refine gr ?_
  refine S.sees [0, 7, 8] [] [] ?_ (Stop.iter S (fun s1 => ⟨[(0, .c (.d (.str a0))), (7, .c (.d (.int .i64 (a0.size : Int)))), (8, .c (.d (.int .i64 s1)))], [], []⟩) (b22_1 a0) (fun q => q = r) hr rfl ?_)
  · exact lf
  · intro s1 hr
    unfold b22_1 at hr
    refine S.gx [7, 8] ?_
    refine gr ?_
    refine iW1 hr (fun hc hr => ?_) fun hc hr => D0 hr
    obtain ⟨hg2, hr⟩ := of_guard1 hr
    obtain ⟨v1, hv1, hr⟩ := of_bind1 hr
    obtain ⟨hg3, hr⟩ := of_guard1 hr
    obtain ⟨hg4, hr⟩ := of_guard1 hr
    try simp only [hv1, oG, oI, true_and, and_assoc]
    repeat (first | refine gG hg3 ?_ | refine gG hg4 ?_ | refine gA ?_ | refine gB ?_)
    refine iW1 hr (fun hc hr => ?_) fun hc hr => ?_
    · refine gr ?_
      refine S.prune [] ?_
      refine S.gx [8] ?_
      exact D0 hr
    · refine gr ?_
      refine S.prune [0, 7, 8] ?_
      refine S.gx [7] ?_
      exact D1 (S.ss [0, 7, 8] [] []) hr
end

/- martensite/steel.CheckAnalysis$1 -/
def r20 (a0 : Int) : Option (Bool) :=
  (r21 a0 0 10000).bind fun v1 =>
   some v1
def T20 := qT3 qu3 false r20
attribute [go_sem] T20
def tb20 : Fns := lk [(21, T21.sp)]
theorem tb20_ok : FnsOk Tryd.prog tb20 := .cons f21 .nil
theorem tk20 : tb20 21 = some T21.sp := rfl
section
attribute [local go_sem] tk20 Tryd.results20
theorem f20 : FnFact Tryd.prog 20 T20.sp := by
  refine valid_m ty_ok tb20_ok Tryd.func20 rfl Tryd.ntmps20 fun a0 r hr => ⟨nL rfl, fun stop S => ?_⟩
  replace hr : r20 a0 = some r := hr
  unfold r20 at hr
  refine S.gx [] ?_
  exact D0 hr
end

/- martensite/steel.CheckAnalysis -/
def b5_1 (x0 : L_SIII) : Bd (Int × (List (ByteArray))) (Int × Int) := fun s1 =>
  if (decide (s1.1 < (x0.length : Int))) = true then
   if 0 ≤ s1.1 ∧ s1.1 < (x0.length : Int) then
    bindC (r22 ((x0.getD s1.1.toNat default).1)) fun v4 =>
     bindC (r19 v4 4) fun v5 =>
      bindC (r19 (!(s1.2.any fun t => decide ((x0.getD s1.1.toNat default).1 = t))) 5) fun v6 =>
       bindC (r20 ((x0.getD s1.1.toNat default).2.1)) fun v7 =>
        if v7 = true → (r20 ((x0.getD s1.1.toNat default).2.2.1)).isSome = true then
         if (v7 && ((r20 ((x0.getD s1.1.toNat default).2.2.1)).getD default)) = true → (r21 ((x0.getD s1.1.toNat default).2.2.2) 0 1000).isSome = true then
          bindC (r19 ((v7 && ((r20 ((x0.getD s1.1.toNat default).2.2.1)).getD default)) && ((r21 ((x0.getD s1.1.toNat default).2.2.2) 0 1000).getD default)) 2) fun v8 =>
           bindC (r19 (decide (((x0.getD s1.1.toNat default).2.1) ≤ ((x0.getD s1.1.toNat default).2.2.1))) 9) fun v9 =>
            bindC (r17 [v5, v6, v8, v9]) fun v10 =>
             if (v10 != 0) = true then
              .out (some (s1.1, v10))
              else .next (IntKind.i64.wrap (s1.1 + 1), s1.2 ++ [(x0.getD s1.1.toNat default).1])
          else .out none
         else .out none
    else .out none
   else .out (some (0, 0))
def r5 (x1 : Int) (x0 : L_SIII) : Option (Int × Int) :=
  (r18 x1).bind fun v1 =>
   (r19 (decide ((x0.length : Int) ≤ 8)) 8).bind fun v2 =>
    (r17 [v1, v2]).bind fun v3 =>
     if (v3 != 0) = true then
      some (0, v3)
      else iterC (b5_1 x0) 1000000000 (0, ([] : List (ByteArray)))
def T5 := qT29 qu5 false r5
attribute [go_sem] T5
def tb5 : Fns := lk [(17, T17.sp), (18, T18.sp), (19, T19.sp), (20, T20.sp), (21, T21.sp), (22, T22.sp)]
theorem tb5_ok : FnsOk Tryd.prog tb5 := .cons f17 (.cons f18 (.cons f19 (.cons f20 (.cons f21 (.cons f22 .nil)))))
theorem tk5 : tb5 17 = some T17.sp ∧ tb5 18 = some T18.sp ∧ tb5 19 = some T19.sp ∧ tb5 20 = some T20.sp ∧ tb5 21 = some T21.sp ∧ tb5 22 = some T22.sp := ⟨rfl, rfl, rfl, rfl, rfl, rfl⟩
section
attribute [local go_sem] tk5 Tryd.results5
theorem f5 : FnFact Tryd.prog 5 T5.sp := by
  refine valid_m ty_ok tb5_ok Tryd.func5 rfl Tryd.ntmps5 fun ⟨x1, x0⟩ r hr => ⟨nL rfl, fun stop S => ?_⟩
  replace hr : r5 x1 x0 = some r := hr
  unfold r5 at hr
  refine S.gx [10] ?_
  obtain ⟨v1, hv1, hr⟩ := of_bind0 hr
  obtain ⟨v2, hv2, hr⟩ := of_bind0 hr
  obtain ⟨v3, hv3, hr⟩ := of_bind0 hr
  refine gb hv1 ?_
  refine gb hv2 ?_
  refine gb hv3 ?_
  refine iW hr (fun hc hr => D0 hr) fun hc hr => ?_
  refine gr ?_
  refine S.sees [5, 6, 25, 26, 27] [] [(23, 23)] ?_ (Stop.iter S (fun s1 => ⟨[(5, .c (.clo 20 [])), (6, .c (.own 23)), (25, .c (.d (encF 4 d_SIII x0))), (26, .c (.d (.int .i64 (x0.length : Int)))), (27, .c (.d (.int .i64 s1.1)))], [], [(23, .set (encF 1 d_S s1.2))]⟩) (b5_1 x0) (fun q => q = r) hr rfl ?_)
  · exact lf
  · intro s1 hr
    unfold b5_1 at hr
    refine S.gx [10] ?_
    refine gr ?_
    refine iW1 hr (fun hc hr => ?_) fun hc hr => D0 hr
    obtain ⟨hg11, hr⟩ := of_guard1 hr
    obtain ⟨v4, hv4, hr⟩ := of_bind1 hr
    obtain ⟨v5, hv5, hr⟩ := of_bind1 hr
    obtain ⟨v6, hv6, hr⟩ := of_bind1 hr
    obtain ⟨v7, hv7, hr⟩ := of_bind1 hr
    obtain ⟨hg12, hr⟩ := of_guard1 hr
    obtain ⟨hg13, hr⟩ := of_guard1 hr
    obtain ⟨v8, hv8, hr⟩ := of_bind1 hr
    obtain ⟨v9, hv9, hr⟩ := of_bind1 hr
    obtain ⟨v10, hv10, hr⟩ := of_bind1 hr
    try simp only [hv4, hv5, hv6, hv7, hv8, hv9, hv10, Option.getD_some, Option.isSome_some, true_and, and_assoc]
    repeat (first | refine gG hg12 ?_ | refine gG hg13 ?_ | refine gA ?_ | refine gB ?_)
    refine S.prune [5, 6, 7, 8, 9, 25, 26, 27] ?_
    refine S.gx [] ?_
    exact D1 (S.ss [5, 6, 25, 26, 27] [] [(23, 23)]) hr
end

/- martensite/steel.StartOf$1 -/
def r23 (a0 : Int) : Option (Int) :=
  if (decide ((a0.tmod 1000) < 0)) = true then
   some (IntKind.i64.wrap ((IntKind.i64.wrap (a0.tdiv 1000)) - 1))
   else some (IntKind.i64.wrap (a0.tdiv 1000))
def T23 := qT3 qu4 false r23
attribute [go_sem] T23
def tb23 : Fns := lk []
theorem tb23_ok : FnsOk Tryd.prog tb23 := FnsOk.nil
section
attribute [local go_sem] Tryd.results23
theorem f23 : FnFact Tryd.prog 23 T23.sp := by
  refine valid_m ty_ok tb23_ok Tryd.func23 rfl Tryd.ntmps23 fun a0 r hr => ⟨nL rfl, fun stop S => ?_⟩
  replace hr : r23 a0 = some r := hr
  unfold r23 at hr
  refine S.gx [] ?_
  exact D0 hr
end

/- martensite/steel.StartOf -/
def b7_1 (x0 : L_SIII) : Bd (Int × Int × Int) (Int × Int × Int) := fun s1 =>
  if (decide (s1.1 < (x0.length : Int))) = true then
   if 0 ≤ s1.1 ∧ s1.1 < (x0.length : Int) then
    .next (IntKind.i64.wrap (s1.1 + 1), IntKind.i64.wrap (s1.2.1 - (IntKind.i64.wrap (((x0.getD s1.1.toNat default).2.2.1) * ((x0.getD s1.1.toNat default).2.2.2)))), IntKind.i64.wrap (s1.2.2 - (IntKind.i64.wrap (((x0.getD s1.1.toNat default).2.1) * ((x0.getD s1.1.toNat default).2.2.2)))))
    else .out none
   else .out ((r23 s1.2.1).bind fun v3 =>
    (r23 (IntKind.i64.wrap (0 - s1.2.2))).bind fun v4 =>
     some (v3, IntKind.i64.wrap (0 - v4), 0))
def r7 (x1 : Int) (x0 : L_SIII) : Option (Int × Int × Int) :=
  (r5 x1 x0).bind fun v1 =>
   if (v1.2 != 0) = true then
    some (0, 0, v1.2)
    else iterC (b7_1 x0) 1000000000 (0, IntKind.i64.wrap (1000 * x1), IntKind.i64.wrap (1000 * x1))
def T7 := qT29 qu14 false r7
attribute [go_sem] T7
def tb7 : Fns := lk [(5, T5.sp), (23, T23.sp)]
theorem tb7_ok : FnsOk Tryd.prog tb7 := .cons f5 (.cons f23 .nil)
theorem tk7 : tb7 5 = some T5.sp ∧ tb7 23 = some T23.sp := ⟨rfl, rfl⟩
section
attribute [local go_sem] tk7 Tryd.results7
theorem f7 : FnFact Tryd.prog 7 T7.sp := by
  refine valid_m ty_ok tb7_ok Tryd.func7 rfl Tryd.ntmps7 fun ⟨x1, x0⟩ r hr => ⟨nL rfl, fun stop S => ?_⟩
  replace hr : r7 x1 x0 = some r := hr
  unfold r7 at hr
  refine S.gx [] ?_
  obtain ⟨v1, hv1, hr⟩ := of_bind0 hr
  refine gb hv1 ?_
  refine iW hr (fun hc hr => D0 hr) fun hc hr => ?_
  refine gr ?_
  refine S.sees [2, 6, 27, 28, 29] [(2, 2), (6, 6)] [] ?_ (Stop.iter S (fun s1 => ⟨[(2, .c (.ref 2 0)), (6, .c (.ref 6 0)), (27, .c (.d (encF 4 d_SIII x0))), (28, .c (.d (.int .i64 (x0.length : Int)))), (29, .c (.d (.int .i64 s1.1)))], [(2, [.d (.int .i64 0), .d (.int .i64 0)]), (6, [.d (.int .i64 s1.2.1), .d (.int .i64 s1.2.2)])], []⟩) (b7_1 x0) (fun q => q = r) hr rfl ?_)
  · exact lf
  · intro s1 hr
    unfold b7_1 at hr
    refine S.gx [] ?_
    exact D1 (S.ss [2, 6, 27, 28, 29] [(2, 2), (6, 6)] []) hr
end

/- martensite/martensitebase.Within -/
def r26 (a0 a1 a2 : Int) : Option (Bool) :=
  some ((decide (a1 ≤ a0)) && (decide (a0 ≤ a2)))
def T26 := qT2 qu3 false r26
attribute [go_sem] T26
def tb26 : Fns := lk []
theorem tb26_ok : FnsOk Tryd.prog tb26 := FnsOk.nil
section
attribute [local go_sem] Tryd.results26
theorem f26 : FnFact Tryd.prog 26 T26.sp := by
  refine valid_m ty_ok tb26_ok Tryd.func26 rfl Tryd.ntmps26 fun ⟨a0, a1, a2⟩ r hr => ⟨nL rfl, fun stop S => ?_⟩
  replace hr : r26 a0 a1 a2 = some r := hr
  unfold r26 at hr
  refine S.gx [] ?_
  repeat (first | refine gA ?_ | refine gB ?_)
  exact D0 hr
end

/- martensite/martensiteref04.IsKelvin -/
def r24 (a0 : Int) : Option (Bool) :=
  (r26 a0 1 3000).bind fun v1 =>
   some v1
def T24 := qT3 qu3 false r24
attribute [go_sem] T24
def tb24 : Fns := lk [(26, T26.sp)]
theorem tb24_ok : FnsOk Tryd.prog tb24 := .cons f26 .nil
theorem tk24 : tb24 26 = some T26.sp := rfl
section
attribute [local go_sem] tk24 Tryd.results24
theorem f24 : FnFact Tryd.prog 24 T24.sp := by
  refine valid_m ty_ok tb24_ok Tryd.func24 rfl Tryd.ntmps24 fun a0 r hr => ⟨nL rfl, fun stop S => ?_⟩
  replace hr : r24 a0 = some r := hr
  unfold r24 at hr
  refine S.gx [] ?_
  exact D0 hr
end

/- martensite/martensitebase.IsName -/
def b25_1 (a0 : ByteArray) : Bd Int Bool := fun s1 =>
  if (decide (s1 < (a0.size : Int))) = true then
   if 0 ≤ s1 ∧ s1 < (a0.size : Int) then
    if ((!(((decide ((byteAt a0 s1.toNat) ≥ 97)) && (decide ((byteAt a0 s1.toNat) ≤ 122))) || ((decide ((byteAt a0 s1.toNat) ≥ 65)) && (decide ((byteAt a0 s1.toNat) ≤ 90))))) && ((s1 == 0) || (((byteAt a0 s1.toNat) != 45) && ((decide ((byteAt a0 s1.toNat) < 48)) || (decide ((byteAt a0 s1.toNat) > 57)))))) = true then
     .out (some false)
     else .next (IntKind.i64.wrap (s1 + 1))
    else .out none
   else .out (some true)
def r25 (a0 : ByteArray) : Option (Bool) :=
  if ((decide ((a0.size : Int) < 1)) || (decide ((a0.size : Int) > 12))) = true then
   some false
   else iterC (b25_1 a0) 1000000000 0
def T25 := qT30 qu3 false r25
attribute [go_sem] T25
def tb25 : Fns := lk []
theorem tb25_ok : FnsOk Tryd.prog tb25 := FnsOk.nil
section
attribute [local go_sem] Tryd.results25
theorem f25 : FnFact Tryd.prog 25 T25.sp := by
  refine valid_m ty_ok tb25_ok Tryd.func25 rfl Tryd.ntmps25 fun a0 r hr => ⟨nL rfl, fun stop S => ?_⟩
  replace hr : r25 a0 = some r := hr
  unfold r25 at hr
  refine S.gx [5, 9] ?_
  repeat (first | refine gA ?_ | refine gB ?_)
  refine iW hr (fun hc hr => D0 hr) fun hc hr => ?_
  refine gr ?_
  refine S.sees [0, 3] [] [] ?_ (Stop.iter S (fun s1 => ⟨[(0, .c (.d (.str a0))), (3, .c (.d (.int .i64 s1)))], [], []⟩) (b25_1 a0) (fun q => q = r) hr rfl ?_)
  · exact lf
  · intro s1 hr
    unfold b25_1 at hr
    refine S.gx [5, 9] ?_
    refine gr ?_
    refine iW1 hr (fun hc hr => ?_) fun hc hr => D0 hr
    obtain ⟨hg1, hr⟩ := of_guard1 hr
    repeat (first | refine gA ?_ | refine gB ?_)
    refine iW1 hr (fun hc hr => ?_) fun hc hr => ?_
    · refine gr ?_
      refine S.prune [] ?_
      refine S.gx [5] ?_
      exact D0 hr
    · refine gr ?_
      refine S.prune [0, 3] ?_
      refine S.gx [9] ?_
      exact D1 (S.ss [0, 3] [] []) hr
end

/- martensite/martensiteref04.CheckAnalysis -/
def b8_2 (x0 : L_SIII) (s1 : Int) : Bd Int (Ctl (Int) (Int × Int)) := fun s2 =>
  if (decide (s2 < s1)) = true then
   if 0 ≤ s2 ∧ s2 < (x0.length : Int) then
    if (decide (((x0.getD s2.toNat default).1) = ((x0.getD s1.toNat default).1))) = true then
     .out (some (.out (some (s1, 5))))
     else .next (IntKind.i64.wrap (s2 + 1))
    else .out none
   else .out (some (bindC (r26 ((x0.getD s1.toNat default).2.1) 0 10000) fun v4 =>
    if (!(!v4)) = true → (r26 ((x0.getD s1.toNat default).2.2.1) 0 10000).isSome = true then
     if (!((!v4) || (!((r26 ((x0.getD s1.toNat default).2.2.1) 0 10000).getD default)))) = true → (r26 ((x0.getD s1.toNat default).2.2.2) 0 1000).isSome = true then
      if (((!v4) || (!((r26 ((x0.getD s1.toNat default).2.2.1) 0 10000).getD default))) || (!((r26 ((x0.getD s1.toNat default).2.2.2) 0 1000).getD default))) = true then
       .out (some (s1, 2))
       else if (decide (((x0.getD s1.toNat default).2.1) > ((x0.getD s1.toNat default).2.2.1))) = true then
        .out (some (s1, 9))
        else .next (IntKind.i64.wrap (s1 + 1))
      else .out none
     else .out none))
def b8_1 (x0 : L_SIII) : Bd Int (Int × Int) := fun s1 =>
  if (decide (s1 < (x0.length : Int))) = true then
   if 0 ≤ s1 ∧ s1 < (x0.length : Int) then
    bindC (r25 ((x0.getD s1.toNat default).1)) fun v2 =>
     if (!v2) = true then
      .out (some (s1, 4))
      else (iterC (b8_2 x0 s1) 1000000000 0).getD (.out none)
    else .out none
   else .out (some (0, 0))
def r8 (x1 : Int) (x0 : L_SIII) : Option (Int × Int) :=
  (r24 x1).bind fun v1 =>
   if (!v1) = true then
    some (0, 2)
    else if (decide ((x0.length : Int) > 8)) = true then
     some (0, 8)
     else iterC (b8_1 x0) 1000000000 0
def T8 := qT29 qu5 false r8
attribute [go_sem] T8
def tb8 : Fns := lk [(24, T24.sp), (25, T25.sp), (26, T26.sp)]
theorem tb8_ok : FnsOk Tryd.prog tb8 := .cons f24 (.cons f25 (.cons f26 .nil))
theorem tk8 : tb8 24 = some T24.sp ∧ tb8 25 = some T25.sp ∧ tb8 26 = some T26.sp := ⟨rfl, rfl, rfl⟩
section
attribute [local go_sem] tk8 Tryd.results8
theorem f8 : FnFact Tryd.prog 8 T8.sp := by
  refine valid_m ty_ok tb8_ok Tryd.func8 rfl Tryd.ntmps8 fun ⟨x1, x0⟩ r hr => ⟨nL rfl, fun stop S => ?_⟩
  replace hr : r8 x1 x0 = some r := hr
  unfold r8 at hr
  refine S.gx [7, 19] ?_
  obtain ⟨v1, hv1, hr⟩ := of_bind0 hr
  refine gb hv1 ?_
  refine iW hr (fun hc hr => D0 hr) fun hc hr => ?_
  refine gr ?_
  refine iW hr (fun hc hr => D0 hr) fun hc hr => ?_
  refine gr ?_
  refine S.sees [1, 4] [(1, 1)] [] ?_ (Stop.iter S (fun s1 => ⟨[(1, .c (.ref 1 0)), (4, .c (.d (.int .i64 s1)))], [(1, [.d (.int .i64 x1), .d (encF 4 d_SIII x0)])], []⟩) (b8_1 x0) (fun q => q = r) hr rfl ?_)
  · exact lf
  · intro s1 hr
    unfold b8_1 at hr
    refine S.gx [7, 19] ?_
    refine gr ?_
    refine iW1 hr (fun hc hr => ?_) fun hc hr => D0 hr
    obtain ⟨hg7, hr⟩ := of_guard1 hr
    obtain ⟨v2, hv2, hr⟩ := of_bind1 hr
    refine gb hv2 ?_
    refine iW1 hr (fun hc hr => D0 hr) fun hc hr => ?_
    refine gr ?_
    obtain ⟨q2, hq, hr⟩ := of_iter1 hr
    refine S.sees [1, 4, 5, 6] [(1, 1), (5, 5)] [] ?_ (Stop.iter S (fun s2 => ⟨[(1, .c (.ref 1 0)), (4, .c (.d (.int .i64 s1))), (5, .c (.ref 5 0)), (6, .c (.d (.int .i64 s2)))], [(1, [.d (.int .i64 x1), .d (encF 4 d_SIII x0)]), (5, [.d (.str ((x0.getD s1.toNat default).1)), .d (.int .i64 ((x0.getD s1.toNat default).2.1)), .d (.int .i64 ((x0.getD s1.toNat default).2.2.1)), .d (.int .i64 ((x0.getD s1.toNat default).2.2.2))])], []⟩) (b8_2 x0 s1) _ hq hr ?_)
    · exact lf
    · intro s2 hr
      unfold b8_2 at hr
      refine S.gx [7, 19] ?_
      refine gr ?_
      refine iW1 hr (fun hc hr => ?_) fun hc hr => ?_
      · obtain ⟨hg3, hr⟩ := of_guard1 hr
        refine gr ?_
        refine iW1 hr (fun hc hr => ?_) fun hc hr => D1 (S.ss [1, 4, 5, 6] [(1, 1), (5, 5)] []) hr
        refine gr ?_
        replace hr := goodC_out hr
        exact D0 hr
      · refine gr ?_
        replace hr := goodC_out hr
        obtain ⟨v4, hv4, hr⟩ := of_bind1 hr
        obtain ⟨hg5, hr⟩ := of_guard1 hr
        obtain ⟨hg6, hr⟩ := of_guard1 hr
        try simp only [hv4, oG, oI, true_and, and_assoc]
        repeat (first | refine gG hg5 ?_ | refine gG hg6 ?_ | refine gA ?_ | refine gB ?_)
        refine iW1 hr (fun hc hr => D0 hr) fun hc hr => ?_
        refine gr ?_
        refine iW1 hr (fun hc hr => ?_) fun hc hr => ?_
        · refine gr ?_
          refine S.prune [4] ?_
          refine S.gx [7] ?_
          exact D0 hr
        · refine gr ?_
          refine S.prune [1, 4] ?_
          refine S.gx [19] ?_
          exact D1 (S.ss [1, 4] [(1, 1)] []) hr
end

/- martensite/martensitebase.Floor -/
def r27 (a0 a1 : Int) : Option (Int) :=
  if a1 ≠ 0 then
   if a1 ≠ 0 then
    if (decide ((a0.tmod a1) < 0)) = true then
     some (IntKind.i64.wrap ((IntKind.i64.wrap (a0.tdiv a1)) - 1))
     else some (IntKind.i64.wrap (a0.tdiv a1))
    else none
   else none
def T27 := qT9 qu4 false r27
attribute [go_sem] T27
def tb27 : Fns := lk []
theorem tb27_ok : FnsOk Tryd.prog tb27 := FnsOk.nil
section
attribute [local go_sem] Tryd.results27
theorem f27 : FnFact Tryd.prog 27 T27.sp := by
  refine valid_m ty_ok tb27_ok Tryd.func27 rfl Tryd.ntmps27 fun ⟨a0, a1⟩ r hr => ⟨nL rfl, fun stop S => ?_⟩
  replace hr : r27 a0 a1 = some r := hr
  unfold r27 at hr
  refine S.gx [] ?_
  exact D0 hr
end

/- martensite/martensitebase.Ceil -/
def r28 (a0 a1 : Int) : Option (Int) :=
  (r27 (IntKind.i64.wrap (0 - a0)) a1).bind fun v1 =>
   some (IntKind.i64.wrap (0 - v1))
def T28 := qT9 qu4 false r28
attribute [go_sem] T28
def tb28 : Fns := lk [(27, T27.sp)]
theorem tb28_ok : FnsOk Tryd.prog tb28 := .cons f27 .nil
theorem tk28 : tb28 27 = some T27.sp := rfl
section
attribute [local go_sem] tk28 Tryd.results28
theorem f28 : FnFact Tryd.prog 28 T28.sp := by
  refine valid_m ty_ok tb28_ok Tryd.func28 rfl Tryd.ntmps28 fun ⟨a0, a1⟩ r hr => ⟨nL rfl, fun stop S => ?_⟩
  replace hr : r28 a0 a1 = some r := hr
  unfold r28 at hr
  refine S.gx [] ?_
  exact D0 hr
end

/- martensite/martensiteref04.Start -/
def b9_1 (x0 : L_SIII) : Bd (Int × Int × Int) (Int × Int) := fun s1 =>
  if (decide (s1.2.2 < (x0.length : Int))) = true then
   if 0 ≤ s1.2.2 ∧ s1.2.2 < (x0.length : Int) then
    if 0 ≤ s1.2.2 ∧ s1.2.2 < (x0.length : Int) then
     if 0 ≤ s1.2.2 ∧ s1.2.2 < (x0.length : Int) then
      if 0 ≤ s1.2.2 ∧ s1.2.2 < (x0.length : Int) then
       .next (IntKind.i64.wrap (s1.1 - (IntKind.i64.wrap (((x0.getD s1.2.2.toNat default).2.2.1) * ((x0.getD s1.2.2.toNat default).2.2.2)))), IntKind.i64.wrap (s1.2.1 - (IntKind.i64.wrap (((x0.getD s1.2.2.toNat default).2.1) * ((x0.getD s1.2.2.toNat default).2.2.2)))), IntKind.i64.wrap (s1.2.2 + 1))
       else .out none
      else .out none
     else .out none
    else .out none
   else .out ((r27 s1.1 1000).bind fun v5 =>
    (r28 s1.2.1 1000).bind fun v6 =>
     some (v5, v6))
def r9 (x1 : Int) (x0 : L_SIII) : Option (Int × Int) :=
  iterC (b9_1 x0) 1000000000 (IntKind.i64.wrap (1000 * x1), IntKind.i64.wrap (1000 * x1), 0)
def T9 := qT29 qu13 false r9
attribute [go_sem] T9
def tb9 : Fns := lk [(27, T27.sp), (28, T28.sp)]
theorem tb9_ok : FnsOk Tryd.prog tb9 := .cons f27 (.cons f28 .nil)
theorem tk9 : tb9 27 = some T27.sp ∧ tb9 28 = some T28.sp := ⟨rfl, rfl⟩
section
attribute [local go_sem] tk9 Tryd.results9
theorem f9 : FnFact Tryd.prog 9 T9.sp := by
  refine valid_m ty_ok tb9_ok Tryd.func9 rfl Tryd.ntmps9 fun ⟨x1, x0⟩ r hr => ⟨nL rfl, fun stop S => ?_⟩
  replace hr : r9 x1 x0 = some r := hr
  unfold r9 at hr
  refine S.gx [4] ?_
  refine gr ?_
  refine S.sees [1, 2, 3, 4, 5] [(1, 1), (2, 2)] [] ?_ (Stop.iter S (fun s1 => ⟨[(1, .c (.ref 1 0)), (2, .c (.ref 2 0)), (3, .c (.d (.int .i64 s1.1))), (4, .c (.d (.int .i64 s1.2.1))), (5, .c (.d (.int .i64 s1.2.2)))], [(1, [.d (.int .i64 x1), .d (encF 4 d_SIII x0)]), (2, [.d (.int .i64 0), .d (.int .i64 0)])], []⟩) (b9_1 x0) (fun q => q = r) hr rfl ?_)
  · exact lf
  · intro s1 hr
    unfold b9_1 at hr
    refine S.gx [4] ?_
    refine gr ?_
    refine iW1 hr (fun hc hr => ?_) fun hc hr => D0 hr
    obtain ⟨hg1, hr⟩ := of_guard1 hr
    obtain ⟨hg2, hr⟩ := of_guard1 hr
    obtain ⟨hg3, hr⟩ := of_guard1 hr
    obtain ⟨hg4, hr⟩ := of_guard1 hr
    refine gr ?_
    refine S.prune [1, 2, 3, 4, 5] ?_
    refine S.gx [] ?_
    exact D1 (S.ss [1, 2, 3, 4, 5] [(1, 1), (2, 2)] []) hr
end
end Go.Proofs.YthcpkkpjegldoaaDoor

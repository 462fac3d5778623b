/- Contracts of functions, written by wip/dec. -/
import Derived.Test.YthcpkkpjegldoaaDoorF00
import Derived.Test.YthcpkkpjegldoaaDoorF01
import Derived.Test.YthcpkkpjegldoaaDoorF02
import Derived.Test.YthcpkkpjegldoaaDoorF03
set_option linter.unusedVariables false
set_option linter.unusedSimpArgs false
set_option linter.constructorNameAsVariable false
set_option maxHeartbeats 4000000
set_option maxRecDepth 20000
namespace Go.Proofs.YthcpkkpjegldoaaDoor
open Go.Abs
section
variable {β : Type} [Inhabited β] (u : β → List RV) (al : Bool)
abbrev qF28 (β : Type) := L_II → Int → β
def qw28 (a0 : L_II) (a1 : Int) : List Arg := [.c (encF 2 d_II a0), .c (.int .i64 a1)]
def qd28 (a : List Arg) := (decF g_II (aCell a 0 0), dInt (aCell a 1 0))
def qp28 {β : Type} (f : qF28 β) (c0 c1 : D) := f (decF g_II c0) (dInt c1)
abbrev qt28 (c0 c1 : D) : List Arg := [.c c0, .c c1]
def qT28 (r : qF28 (Option β)) := mkT (u2 qw28) qd28 (u2 r) u al
theorem qP28 (r : qF28 (Option β)) (c0 c1 : D) : PT (qT28 u al r).sp u (qt28 c0 c1) (qp28 qw28 c0 c1) (qp28 r c0 c1) := ⟨rfl, rfl⟩
theorem qa28 (r : qF28 (Option β)) : (qT28 u al r).sp.alias = al := rfl
attribute [go_sem] qw28 qp28 qt28 qP28 qa28
end
/- martensite/steel.BandOf -/
def r15 (x0 : L_IIII) (x1 : L_IIIII) (x2 : L_III) (x3 : L_II) (x4 x5 x6 x7 x8 x9 x10 x11 x12 x13 x14 x15 x16 x17 x18 x19 x20 x21 : Int) : Option (Int × Int × Int) :=
  (r29 x0 x1 x2 x3 x4 x5 x6 x7).bind fun v1 =>
   (r35 x8 x9 x10 x11 x12 x13 x14 x15 x16 x17 x18 x19 x20 x21).bind fun v2 =>
    (r17 [v1, v2]).bind fun v3 =>
     if (v3 != 0) = true then
      some (0, 0, v3)
      else (r36 x0 x1 x2 x3 x4 x5 x6 x7 x8 x9 x10 x11 x12 x13 x14 x15 x16 x17 x18 x19 x20 x21).bind fun v4 =>
       some (v4.1, v4.2, 0)
def T15 := qT27 qu14 false r15
attribute [go_sem] T15
def tb15 : Fns := lk [(17, T17.sp), (29, T29.sp), (35, T35.sp), (36, T36.sp)]
theorem tb15_ok : FnsOk Tryd.prog tb15 := .cons f17 (.cons f29 (.cons f35 (.cons f36 .nil)))
theorem tk15 : tb15 17 = some T17.sp ∧ tb15 29 = some T29.sp ∧ tb15 35 = some T35.sp ∧ tb15 36 = some T36.sp := ⟨rfl, rfl, rfl, rfl⟩
section
attribute [local go_sem] tk15 Tryd.results15
theorem f15 : FnFact Tryd.prog 15 T15.sp := by
  refine valid_m ty_ok tb15_ok Tryd.func15 rfl Tryd.ntmps15 fun ⟨x0, x1, x2, x3, x4, x5, x6, x7, x8, x9, x10, x11, x12, x13, x14, x15, x16, x17, x18, x19, x20, x21⟩ r hr => ⟨nL rfl, fun stop S => ?_⟩
  replace hr : r15 x0 x1 x2 x3 x4 x5 x6 x7 x8 x9 x10 x11 x12 x13 x14 x15 x16 x17 x18 x19 x20 x21 = some r := hr
  unfold r15 at hr
  refine S.gx [] ?_
  exact D0 hr
end

/- martensite/steel.isHard -/
def r38 (a0 : Int) : Option (Bool) :=
  (r21 a0 0 2000).bind fun v1 =>
   some v1
def T38 := qT3 qu3 false r38
attribute [go_sem] T38
def tb38 : Fns := lk [(21, T21.sp)]
theorem tb38_ok : FnsOk Tryd.prog tb38 := .cons f21 .nil
theorem tk38 : tb38 21 = some T21.sp := rfl
section
attribute [local go_sem] tk38 Tryd.results38
theorem f38 : FnFact Tryd.prog 38 T38.sp := by
  refine valid_m ty_ok tb38_ok Tryd.func38 rfl Tryd.ntmps38 fun a0 r hr => ⟨nL rfl, fun stop S => ?_⟩
  replace hr : r38 a0 = some r := hr
  unfold r38 at hr
  refine S.gx [] ?_
  exact D0 hr
end

/- martensite/steel.hardErr -/
def r37 (x1 x0 : Int) : Option (Int) :=
  (r38 x1).bind fun v1 =>
   if v1 = true → (r38 x0).isSome = true then
    (r19 (v1 && ((r38 x0).getD default)) 2).bind fun v2 =>
     (r19 (decide (x1 ≤ x0)) 9).bind fun v3 =>
      (r17 [v2, v3]).bind fun v4 =>
       some v4
    else none
def T37 := qT4 qu4 false r37
attribute [go_sem] T37
def tb37 : Fns := lk [(17, T17.sp), (19, T19.sp), (38, T38.sp)]
theorem tb37_ok : FnsOk Tryd.prog tb37 := .cons f17 (.cons f19 (.cons f38 .nil))
theorem tk37 : tb37 17 = some T17.sp ∧ tb37 19 = some T19.sp ∧ tb37 38 = some T38.sp := ⟨rfl, rfl, rfl⟩
section
attribute [local go_sem] tk37 Tryd.results37
theorem f37 : FnFact Tryd.prog 37 T37.sp := by
  refine valid_m ty_ok tb37_ok Tryd.func37 rfl Tryd.ntmps37 fun ⟨x1, x0⟩ r hr => ⟨nL rfl, fun stop S => ?_⟩
  replace hr : r37 x1 x0 = some r := hr
  unfold r37 at hr
  refine S.gx [] ?_
  obtain ⟨v1, hv1, hr⟩ := of_bind0 hr
  obtain ⟨hg5, hr⟩ := of_guard0 hr
  obtain ⟨v2, hv2, hr⟩ := of_bind0 hr
  obtain ⟨v3, hv3, hr⟩ := of_bind0 hr
  obtain ⟨v4, hv4, hr⟩ := of_bind0 hr
  try simp only [hv1, hv2, hv3, hv4, Option.getD_some, Option.isSome_some, true_and, and_assoc]
  repeat (first | refine gG hg5 ?_ | refine gA ?_ | refine gB ?_)
  exact D0 hr
end

/- martensite/steel.CaseDepth$2 -/
def r42 (x0 x1 : Int) : Option (Int) :=
  some x0
def T42 := qT4 qu4 false r42
attribute [go_sem] T42
def tb42 : Fns := lk []
theorem tb42_ok : FnsOk Tryd.prog tb42 := FnsOk.nil
section
attribute [local go_sem] Tryd.results42
theorem f42 : FnFact Tryd.prog 42 T42.sp := by
  refine valid_m ty_ok tb42_ok Tryd.func42 rfl Tryd.ntmps42 fun ⟨x0, x1⟩ r hr => ⟨nL rfl, fun stop S => ?_⟩
  replace hr : r42 x0 x1 = some r := hr
  unfold r42 at hr
  refine S.gx [] ?_
  exact D0 hr
end

/- martensite/steel.CaseDepth$3 -/
def r43 (x1 x0 : Int) : Option (Int) :=
  some x0
def T43 := qT4 qu4 false r43
attribute [go_sem] T43
def tb43 : Fns := lk []
theorem tb43_ok : FnsOk Tryd.prog tb43 := FnsOk.nil
section
attribute [local go_sem] Tryd.results43
theorem f43 : FnFact Tryd.prog 43 T43.sp := by
  refine valid_m ty_ok tb43_ok Tryd.func43 rfl Tryd.ntmps43 fun ⟨x1, x0⟩ r hr => ⟨nL rfl, fun stop S => ?_⟩
  replace hr : r43 x1 x0 = some r := hr
  unfold r43 at hr
  refine S.gx [] ?_
  exact D0 hr
end

/- martensite/steel.CaseDepth -/
def b16_3 (a0 : L_II) (a1 s2 : Int) : Bd Int (Int × Int × Int) := fun s3 =>
  if (decide (s3 < (a0.length : Int))) = true then
   if 0 ≤ s3 ∧ s3 < (a0.length : Int) then
    bindC (r43 ((a0.getD s3.toNat default).1) ((a0.getD s3.toNat default).2)) fun v9 =>
     if (decide (v9 < a1)) = true then
      .out (if (decide (s3 ≥ 0)) = true then
       some (s2, s3, 0)
       else some (s2, (a0.length : Int), 0))
      else .next (IntKind.i64.wrap (s3 + 1))
    else .out none
   else .out (if (decide ((-1) ≥ 0)) = true then
    some (s2, (-1), 0)
    else some (s2, (a0.length : Int), 0))
def b16_4 (a0 : L_II) (a1 : Int) : Bd Int (Int × Int × Int) := fun s4 =>
  if (decide (s4 < (a0.length : Int))) = true then
   if 0 ≤ s4 ∧ s4 < (a0.length : Int) then
    bindC (r43 ((a0.getD s4.toNat default).1) ((a0.getD s4.toNat default).2)) fun v11 =>
     if (decide (v11 < a1)) = true then
      .out (if (decide (s4 ≥ 0)) = true then
       some ((a0.length : Int), s4, 0)
       else some ((a0.length : Int), (a0.length : Int), 0))
      else .next (IntKind.i64.wrap (s4 + 1))
    else .out none
   else .out (if (decide ((-1) ≥ 0)) = true then
    some ((a0.length : Int), (-1), 0)
    else some ((a0.length : Int), (a0.length : Int), 0))
def b16_5 (a0 : L_II) (a1 : Int) : Bd Int (Int × Int × Int) := fun s5 =>
  if (decide (s5 < (a0.length : Int))) = true then
   if 0 ≤ s5 ∧ s5 < (a0.length : Int) then
    bindC (r43 ((a0.getD s5.toNat default).1) ((a0.getD s5.toNat default).2)) fun v14 =>
     if (decide (v14 < a1)) = true then
      .out (if (decide (s5 ≥ 0)) = true then
       some ((-1), s5, 0)
       else some ((-1), (a0.length : Int), 0))
      else .next (IntKind.i64.wrap (s5 + 1))
    else .out none
   else .out (if (decide ((-1) ≥ 0)) = true then
    some ((-1), (-1), 0)
    else some ((-1), (a0.length : Int), 0))
def b16_6 (a0 : L_II) (a1 : Int) : Bd Int (Int × Int × Int) := fun s6 =>
  if (decide (s6 < (a0.length : Int))) = true then
   if 0 ≤ s6 ∧ s6 < (a0.length : Int) then
    bindC (r43 ((a0.getD s6.toNat default).1) ((a0.getD s6.toNat default).2)) fun v16 =>
     if (decide (v16 < a1)) = true then
      .out (if (decide (s6 ≥ 0)) = true then
       some ((a0.length : Int), s6, 0)
       else some ((a0.length : Int), (a0.length : Int), 0))
      else .next (IntKind.i64.wrap (s6 + 1))
    else .out none
   else .out (if (decide ((-1) ≥ 0)) = true then
    some ((a0.length : Int), (-1), 0)
    else some ((a0.length : Int), (a0.length : Int), 0))
def b16_2 (a0 : L_II) (a1 : Int) : Bd Int (Int × Int × Int) := fun s2 =>
  if (decide (s2 < (a0.length : Int))) = true then
   if 0 ≤ s2 ∧ s2 < (a0.length : Int) then
    bindC (r42 ((a0.getD s2.toNat default).1) ((a0.getD s2.toNat default).2)) fun v8 =>
     if (decide (v8 < a1)) = true then
      .out (if (decide (s2 ≥ 0)) = true then
       iterC (b16_3 a0 a1 s2) 1000000000 0
       else iterC (b16_4 a0 a1) 1000000000 0)
      else .next (IntKind.i64.wrap (s2 + 1))
    else .out none
   else .out (if (decide ((-1) ≥ 0)) = true then
    iterC (b16_5 a0 a1) 1000000000 0
    else iterC (b16_6 a0 a1) 1000000000 0)
def b16_1 (a0 : L_II) (a1 : Int) : Bd (Int × Int) (Int × Int × Int) := fun s1 =>
  if (decide (s1.2 < (a0.length : Int))) = true then
   if 0 ≤ s1.2 ∧ s1.2 < (a0.length : Int) then
    bindC (r37 ((a0.getD s1.2.toNat default).1) ((a0.getD s1.2.toNat default).2)) fun v2 =>
     bindC (r17 [s1.1, v2]) fun v3 =>
      .next (v3, IntKind.i64.wrap (s1.2 + 1))
    else .out none
   else .out ((r38 a1).bind fun v5 =>
    (r19 v5 2).bind fun v6 =>
     (r17 [s1.1, v6]).bind fun v7 =>
      if (v7 != 0) = true then
       some (0, 0, v7)
       else iterC (b16_2 a0 a1) 1000000000 0)
def r16 (a0 : L_II) (a1 : Int) : Option (Int × Int × Int) :=
  (r19 (decide ((a0.length : Int) ≤ 12)) 8).bind fun v1 =>
   iterC (b16_1 a0 a1) 1000000000 (v1, 0)
def T16 := qT28 qu14 false r16
attribute [go_sem] T16
def tb16 : Fns := lk [(17, T17.sp), (19, T19.sp), (37, T37.sp), (38, T38.sp), (42, T42.sp), (43, T43.sp)]
theorem tb16_ok : FnsOk Tryd.prog tb16 := .cons f17 (.cons f19 (.cons f37 (.cons f38 (.cons f42 (.cons f43 .nil)))))
theorem tk16 : tb16 17 = some T17.sp ∧ tb16 19 = some T19.sp ∧ tb16 37 = some T37.sp ∧ tb16 38 = some T38.sp ∧ tb16 42 = some T42.sp ∧ tb16 43 = some T43.sp := ⟨rfl, rfl, rfl, rfl, rfl, rfl⟩
section
attribute [local go_sem] tk16 Tryd.results16 Tryd.results39 Tryd.results40 Tryd.results41
theorem f16 : FnFact Tryd.prog 16 T16.sp := by
  refine valid_m ty_ok tb16_ok Tryd.func16 rfl Tryd.ntmps16 fun ⟨a0, a1⟩ r hr => ⟨nL rfl, fun stop S => ?_⟩
  replace hr : r16 a0 a1 = some r := hr
  unfold r16 at hr
  refine S.gx [11] ?_
  obtain ⟨v1, hv1, hr⟩ := of_bind0 hr
  refine gb hv1 ?_
  refine S.sees [2, 3, 4, 6, 14, 15, 16] [(2, 2), (3, 3), (4, 4)] [] ?_ (Stop.iter S (fun s1 => ⟨[(2, .c (.ref 2 0)), (3, .c (.ref 3 0)), (4, .c (.ref 4 0)), (6, .c (.d (.int .i64 s1.1))), (14, .c (.d (encF 2 d_II a0))), (15, .c (.d (.int .i64 (a0.length : Int)))), (16, .c (.d (.int .i64 s1.2)))], [(2, [.d (encF 2 d_II a0)]), (3, [.d (.int .i64 a1)]), (4, [.d (.int .i64 0), .d (.int .i64 0)])], []⟩) (b16_1 a0 a1) (fun q => q = r) hr rfl ?_)
  · exact lf
  · intro s1 hr
    unfold b16_1 at hr
    refine S.gx [11] ?_
    refine gr ?_
    refine iW1 hr (fun hc hr => D1 (S.ss [2, 3, 4, 6, 14, 15, 16] [(2, 2), (3, 3), (4, 4)] []) hr) fun hc hr => ?_
    refine gr ?_
    have hr := of_out0 hr
    obtain ⟨v5, hv5, hr⟩ := of_bind0 hr
    obtain ⟨v6, hv6, hr⟩ := of_bind0 hr
    obtain ⟨v7, hv7, hr⟩ := of_bind0 hr
    refine gb hv5 ?_
    refine gb hv6 ?_
    refine gb hv7 ?_
    refine iW hr (fun hc hr => D0 hr) fun hc hr => ?_
    refine gr ?_
    refine S.reg0 ?_
    refine S.opsTo 0 1 (nL rfl) (nL rfl) ?_
    refine gs ?_
    refine gr ?_
    refine S.inlO 1 [4, 9] [.ref 2 0, .ref 3 0] Tryd.func39 (by decide) rfl Tryd.ntmps39 (fun cx e => drawn_ok ty_ok tb16_ok cx e) (some 38) rfl rfl rfl rfl (nL rfl) (nL rfl) ?_
    refine gs ?_
    refine gr ?_
    intro stop1 S1
    refine S1.gx [1] ?_
    refine gr ?_
    refine S1.inl 2 [1] [] Tryd.func40 (by decide) rfl Tryd.ntmps40 (fun cx e => drawn_ok ty_ok tb16_ok cx e) (some 8) rfl rfl rfl rfl (nL rfl) (nL rfl) ?_
    refine gs ?_
    refine gr ?_
    intro stop2 S2
    refine S2.gx [4] ?_
    refine gr ?_
    refine S2.sees [0, 1, 7, 8] [(100003, 100003), (3, 3), (2, 2), (4, 4)] [] ?_ (Stop.iter S2 (fun s2 => ⟨[(0, .c (.d (encF 2 d_II a0))), (1, .c (.clo 41 [.ref 100003 0, .ref 3 0])), (7, .c (.d (.int .i64 (a0.length : Int)))), (8, .c (.d (.int .i64 s2)))], [(100003, [.clo 42 []]), (3, [.d (.int .i64 a1)]), (2, [.d (encF 2 d_II a0)]), (4, [.d (.int .i64 0), .d (.int .i64 0)])], []⟩) (b16_2 a0 a1) (fun q => q = r) hr rfl ?_)
    · exact lf
    · intro s2 hr
      unfold b16_2 at hr
      refine S2.gx [4] ?_
      refine gr ?_
      refine iW1 hr (fun hc hr => ?_) fun hc hr => ?_
      · refine gr ?_
        refine S2.inl 5 [0, 1, 5, 7, 8] [.ref 100003 0, .ref 3 0] Tryd.func41 (by decide) rfl Tryd.ntmps41 (fun cx e => drawn_ok ty_ok tb16_ok cx e) (some 16) rfl rfl rfl rfl (nL rfl) (nL rfl) ?_
        refine gs ?_
        obtain ⟨hg13, hr⟩ := of_guard1 hr
        refine gr ?_
        intro stop3 S3
        refine S3.gx [1] ?_
        refine gr ?_
        refine S3.gx [] ?_
        obtain ⟨v8, hv8, hr⟩ := of_bind1 hr
        refine gb hv8 ?_
        refine gr ?_
        refine gr ?_
        refine S2.gx [4] ?_
        refine gr ?_
        refine iW1 hr (fun hc hr => ?_) fun hc hr => D1 (S2.ss [0, 1, 7, 8] [(100003, 100003), (3, 3), (2, 2), (4, 4)] []) hr
        refine gr ?_
        have hr := of_out0 hr
        refine gr ?_
        refine S1.gx [1] ?_
        refine gr ?_
        refine iW hr (fun hc hr => ?_) fun hc hr => ?_
        · refine gr ?_
          refine gr ?_
          refine S.opsTo 2 3 (nL rfl) (nL rfl) ?_
          refine gs ?_
          refine gr ?_
          refine S.inlO 3 [4, 38] [.ref 2 0, .ref 3 0] Tryd.func39 (by decide) rfl Tryd.ntmps39 (fun cx e => drawn_ok ty_ok tb16_ok cx e) (some 40) rfl rfl rfl rfl (nL rfl) (nL rfl) ?_
          refine gs ?_
          refine gr ?_
          intro stop1 S1
          refine S1.gx [1] ?_
          refine gr ?_
          refine S1.inl 2 [1] [] Tryd.func40 (by decide) rfl Tryd.ntmps40 (fun cx e => drawn_ok ty_ok tb16_ok cx e) (some 8) rfl rfl rfl rfl (nL rfl) (nL rfl) ?_
          refine gs ?_
          refine gr ?_
          intro stop2 S2
          refine S2.gx [4] ?_
          refine gr ?_
          refine S2.sees [0, 1, 7, 8] [(300003, 300003), (3, 3), (2, 2), (4, 4)] [] ?_ (Stop.iter S2 (fun s3 => ⟨[(0, .c (.d (encF 2 d_II a0))), (1, .c (.clo 41 [.ref 300003 0, .ref 3 0])), (7, .c (.d (.int .i64 (a0.length : Int)))), (8, .c (.d (.int .i64 s3)))], [(300003, [.clo 43 []]), (3, [.d (.int .i64 a1)]), (2, [.d (encF 2 d_II a0)]), (4, [.d (.int .i64 0), .d (.int .i64 0)])], []⟩) (b16_3 a0 a1 s2) (fun q => q = r) hr rfl ?_)
          · exact lf
          · intro s3 hr
            unfold b16_3 at hr
            refine S2.gx [4] ?_
            refine gr ?_
            refine iW1 hr (fun hc hr => ?_) fun hc hr => ?_
            · refine gr ?_
              refine S2.inl 5 [0, 1, 5, 7, 8] [.ref 300003 0, .ref 3 0] Tryd.func41 (by decide) rfl Tryd.ntmps41 (fun cx e => drawn_ok ty_ok tb16_ok cx e) (some 16) rfl rfl rfl rfl (nL rfl) (nL rfl) ?_
              refine gs ?_
              obtain ⟨hg10, hr⟩ := of_guard1 hr
              refine gr ?_
              intro stop3 S3
              refine S3.gx [1] ?_
              refine gr ?_
              refine S3.gx [] ?_
              obtain ⟨v9, hv9, hr⟩ := of_bind1 hr
              refine gb hv9 ?_
              refine gr ?_
              refine gr ?_
              refine S2.gx [4] ?_
              refine gr ?_
              refine iW1 hr (fun hc hr => ?_) fun hc hr => D1 (S2.ss [0, 1, 7, 8] [(300003, 300003), (3, 3), (2, 2), (4, 4)] []) hr
              refine gr ?_
              have hr := of_out0 hr
              refine gr ?_
              refine S1.gx [1] ?_
              refine gr ?_
              refine iW hr (fun hc hr => ?_) fun hc hr => ?_
              · refine gr ?_
                refine gr ?_
                refine S.gx [11] ?_
                exact D0 hr
              · refine gr ?_
                refine gr ?_
                refine S.gx [11] ?_
                exact D0 hr
            · refine gr ?_
              have hr := of_out0 hr
              refine gr ?_
              refine gr ?_
              refine S1.gx [1] ?_
              refine gr ?_
              refine iW hr (fun hc hr => ?_) fun hc hr => ?_
              · refine gr ?_
                refine gr ?_
                refine S.gx [11] ?_
                exact D0 hr
              · refine gr ?_
                refine gr ?_
                refine S.gx [11] ?_
                exact D0 hr
        · refine gr ?_
          refine gr ?_
          refine S.opsTo 2 3 (nL rfl) (nL rfl) ?_
          refine gs ?_
          refine gr ?_
          refine S.inlO 3 [4, 38] [.ref 2 0, .ref 3 0] Tryd.func39 (by decide) rfl Tryd.ntmps39 (fun cx e => drawn_ok ty_ok tb16_ok cx e) (some 40) rfl rfl rfl rfl (nL rfl) (nL rfl) ?_
          refine gs ?_
          refine gr ?_
          intro stop1 S1
          refine S1.gx [1] ?_
          refine gr ?_
          refine S1.inl 2 [1] [] Tryd.func40 (by decide) rfl Tryd.ntmps40 (fun cx e => drawn_ok ty_ok tb16_ok cx e) (some 8) rfl rfl rfl rfl (nL rfl) (nL rfl) ?_
          refine gs ?_
          refine gr ?_
          intro stop2 S2
          refine S2.gx [4] ?_
          refine gr ?_
          refine S2.sees [0, 1, 7, 8] [(300003, 300003), (3, 3), (2, 2), (4, 4)] [] ?_ (Stop.iter S2 (fun s4 => ⟨[(0, .c (.d (encF 2 d_II a0))), (1, .c (.clo 41 [.ref 300003 0, .ref 3 0])), (7, .c (.d (.int .i64 (a0.length : Int)))), (8, .c (.d (.int .i64 s4)))], [(300003, [.clo 43 []]), (3, [.d (.int .i64 a1)]), (2, [.d (encF 2 d_II a0)]), (4, [.d (.int .i64 0), .d (.int .i64 0)])], []⟩) (b16_4 a0 a1) (fun q => q = r) hr rfl ?_)
          · exact lf
          · intro s4 hr
            unfold b16_4 at hr
            refine S2.gx [4] ?_
            refine gr ?_
            refine iW1 hr (fun hc hr => ?_) fun hc hr => ?_
            · refine gr ?_
              refine S2.inl 5 [0, 1, 5, 7, 8] [.ref 300003 0, .ref 3 0] Tryd.func41 (by decide) rfl Tryd.ntmps41 (fun cx e => drawn_ok ty_ok tb16_ok cx e) (some 16) rfl rfl rfl rfl (nL rfl) (nL rfl) ?_
              refine gs ?_
              obtain ⟨hg12, hr⟩ := of_guard1 hr
              refine gr ?_
              intro stop3 S3
              refine S3.gx [1] ?_
              refine gr ?_
              refine S3.gx [] ?_
              obtain ⟨v11, hv11, hr⟩ := of_bind1 hr
              refine gb hv11 ?_
              refine gr ?_
              refine gr ?_
              refine S2.gx [4] ?_
              refine gr ?_
              refine iW1 hr (fun hc hr => ?_) fun hc hr => D1 (S2.ss [0, 1, 7, 8] [(300003, 300003), (3, 3), (2, 2), (4, 4)] []) hr
              refine gr ?_
              have hr := of_out0 hr
              refine gr ?_
              refine S1.gx [1] ?_
              refine gr ?_
              refine iW hr (fun hc hr => ?_) fun hc hr => ?_
              · refine gr ?_
                refine gr ?_
                refine S.gx [11] ?_
                exact D0 hr
              · refine gr ?_
                refine gr ?_
                refine S.gx [11] ?_
                exact D0 hr
            · refine gr ?_
              have hr := of_out0 hr
              refine gr ?_
              refine gr ?_
              refine S1.gx [1] ?_
              refine gr ?_
              refine iW hr (fun hc hr => ?_) fun hc hr => ?_
              · refine gr ?_
                refine gr ?_
                refine S.gx [11] ?_
                exact D0 hr
              · refine gr ?_
                refine gr ?_
                refine S.gx [11] ?_
                exact D0 hr
      · refine gr ?_
        have hr := of_out0 hr
        refine gr ?_
        refine gr ?_
        refine S1.gx [1] ?_
        refine gr ?_
        refine iW hr (fun hc hr => ?_) fun hc hr => ?_
        · refine gr ?_
          refine gr ?_
          refine S.opsTo 2 3 (nL rfl) (nL rfl) ?_
          refine gs ?_
          refine gr ?_
          refine S.inlO 3 [4, 38] [.ref 2 0, .ref 3 0] Tryd.func39 (by decide) rfl Tryd.ntmps39 (fun cx e => drawn_ok ty_ok tb16_ok cx e) (some 40) rfl rfl rfl rfl (nL rfl) (nL rfl) ?_
          refine gs ?_
          refine gr ?_
          intro stop1 S1
          refine S1.gx [1] ?_
          refine gr ?_
          refine S1.inl 2 [1] [] Tryd.func40 (by decide) rfl Tryd.ntmps40 (fun cx e => drawn_ok ty_ok tb16_ok cx e) (some 8) rfl rfl rfl rfl (nL rfl) (nL rfl) ?_
          refine gs ?_
          refine gr ?_
          intro stop2 S2
          refine S2.gx [4] ?_
          refine gr ?_
          refine S2.sees [0, 1, 7, 8] [(200003, 200003), (3, 3), (2, 2), (4, 4)] [] ?_ (Stop.iter S2 (fun s5 => ⟨[(0, .c (.d (encF 2 d_II a0))), (1, .c (.clo 41 [.ref 200003 0, .ref 3 0])), (7, .c (.d (.int .i64 (a0.length : Int)))), (8, .c (.d (.int .i64 s5)))], [(200003, [.clo 43 []]), (3, [.d (.int .i64 a1)]), (2, [.d (encF 2 d_II a0)]), (4, [.d (.int .i64 0), .d (.int .i64 0)])], []⟩) (b16_5 a0 a1) (fun q => q = r) hr rfl ?_)
          · exact lf
          · intro s5 hr
            unfold b16_5 at hr
            refine S2.gx [4] ?_
            refine gr ?_
            refine iW1 hr (fun hc hr => ?_) fun hc hr => ?_
            · refine gr ?_
              refine S2.inl 5 [0, 1, 5, 7, 8] [.ref 200003 0, .ref 3 0] Tryd.func41 (by decide) rfl Tryd.ntmps41 (fun cx e => drawn_ok ty_ok tb16_ok cx e) (some 16) rfl rfl rfl rfl (nL rfl) (nL rfl) ?_
              refine gs ?_
              obtain ⟨hg15, hr⟩ := of_guard1 hr
              refine gr ?_
              intro stop3 S3
              refine S3.gx [1] ?_
              refine gr ?_
              refine S3.gx [] ?_
              obtain ⟨v14, hv14, hr⟩ := of_bind1 hr
              refine gb hv14 ?_
              refine gr ?_
              refine gr ?_
              refine S2.gx [4] ?_
              refine gr ?_
              refine iW1 hr (fun hc hr => ?_) fun hc hr => D1 (S2.ss [0, 1, 7, 8] [(200003, 200003), (3, 3), (2, 2), (4, 4)] []) hr
              refine gr ?_
              have hr := of_out0 hr
              refine gr ?_
              refine S1.gx [1] ?_
              refine gr ?_
              refine iW hr (fun hc hr => ?_) fun hc hr => ?_
              · refine gr ?_
                refine gr ?_
                refine S.gx [11] ?_
                exact D0 hr
              · refine gr ?_
                refine gr ?_
                refine S.gx [11] ?_
                exact D0 hr
            · refine gr ?_
              have hr := of_out0 hr
              refine gr ?_
              refine gr ?_
              refine S1.gx [1] ?_
              refine gr ?_
              refine iW hr (fun hc hr => ?_) fun hc hr => ?_
              · refine gr ?_
                refine gr ?_
                refine S.gx [11] ?_
                exact D0 hr
              · refine gr ?_
                refine gr ?_
                refine S.gx [11] ?_
                exact D0 hr
        · refine gr ?_
          refine gr ?_
          refine S.opsTo 2 3 (nL rfl) (nL rfl) ?_
          refine gs ?_
          refine gr ?_
          refine S.inlO 3 [4, 38] [.ref 2 0, .ref 3 0] Tryd.func39 (by decide) rfl Tryd.ntmps39 (fun cx e => drawn_ok ty_ok tb16_ok cx e) (some 40) rfl rfl rfl rfl (nL rfl) (nL rfl) ?_
          refine gs ?_
          refine gr ?_
          intro stop1 S1
          refine S1.gx [1] ?_
          refine gr ?_
          refine S1.inl 2 [1] [] Tryd.func40 (by decide) rfl Tryd.ntmps40 (fun cx e => drawn_ok ty_ok tb16_ok cx e) (some 8) rfl rfl rfl rfl (nL rfl) (nL rfl) ?_
          refine gs ?_
          refine gr ?_
          intro stop2 S2
          refine S2.gx [4] ?_
          refine gr ?_
          refine S2.sees [0, 1, 7, 8] [(200003, 200003), (3, 3), (2, 2), (4, 4)] [] ?_ (Stop.iter S2 (fun s6 => ⟨[(0, .c (.d (encF 2 d_II a0))), (1, .c (.clo 41 [.ref 200003 0, .ref 3 0])), (7, .c (.d (.int .i64 (a0.length : Int)))), (8, .c (.d (.int .i64 s6)))], [(200003, [.clo 43 []]), (3, [.d (.int .i64 a1)]), (2, [.d (encF 2 d_II a0)]), (4, [.d (.int .i64 0), .d (.int .i64 0)])], []⟩) (b16_6 a0 a1) (fun q => q = r) hr rfl ?_)
          · exact lf
          · intro s6 hr
            unfold b16_6 at hr
            refine S2.gx [4] ?_
            refine gr ?_
            refine iW1 hr (fun hc hr => ?_) fun hc hr => ?_
            · refine gr ?_
              refine S2.inl 5 [0, 1, 5, 7, 8] [.ref 200003 0, .ref 3 0] Tryd.func41 (by decide) rfl Tryd.ntmps41 (fun cx e => drawn_ok ty_ok tb16_ok cx e) (some 16) rfl rfl rfl rfl (nL rfl) (nL rfl) ?_
              refine gs ?_
              obtain ⟨hg17, hr⟩ := of_guard1 hr
              refine gr ?_
              intro stop3 S3
              refine S3.gx [1] ?_
              refine gr ?_
              refine S3.gx [] ?_
              obtain ⟨v16, hv16, hr⟩ := of_bind1 hr
              refine gb hv16 ?_
              refine gr ?_
              refine gr ?_
              refine S2.gx [4] ?_
              refine gr ?_
              refine iW1 hr (fun hc hr => ?_) fun hc hr => D1 (S2.ss [0, 1, 7, 8] [(200003, 200003), (3, 3), (2, 2), (4, 4)] []) hr
              refine gr ?_
              have hr := of_out0 hr
              refine gr ?_
              refine S1.gx [1] ?_
              refine gr ?_
              refine iW hr (fun hc hr => ?_) fun hc hr => ?_
              · refine gr ?_
                refine gr ?_
                refine S.gx [11] ?_
                exact D0 hr
              · refine gr ?_
                refine gr ?_
                refine S.gx [11] ?_
                exact D0 hr
            · refine gr ?_
              have hr := of_out0 hr
              refine gr ?_
              refine gr ?_
              refine S1.gx [1] ?_
              refine gr ?_
              refine iW hr (fun hc hr => ?_) fun hc hr => ?_
              · refine gr ?_
                refine gr ?_
                refine S.gx [11] ?_
                exact D0 hr
              · refine gr ?_
                refine gr ?_
                refine S.gx [11] ?_
                exact D0 hr
end
end Go.Proofs.YthcpkkpjegldoaaDoor

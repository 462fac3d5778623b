/- Contracts of functions, written by wip/dec. -/
import Derived.Test.YtdlogfepbkojkaaGreatDoorF00
import Derived.Test.YtdlogfepbkojkaaGreatDoorF02
import Derived.Test.YtdlogfepbkojkaaGreatDoorF04
set_option linter.unusedVariables false
set_option linter.unusedSimpArgs false
set_option maxHeartbeats 4000000
set_option maxRecDepth 20000
namespace Go.Proofs.YtdlogfepbkojkaaGreatDoor
open Go.Abs
abbrev qA32 := ByteArray × Int
def qw32 (a0 : ByteArray) (a1 : Int) : List Arg := [.c (.str a0), .c (.int .i64 a1)]
def qE32 : qA32 → List Arg := fun ⟨a0, a1⟩ => qw32 a0 a1
def qd32 (a : List Arg) : qA32 := (dStr (aCell a 0 0), dInt (aCell a 1 0))
def qp32 {β : Type} (f : ByteArray → Int → β) (c0 c1 : D) : β := f (dStr c0) (dInt c1)
def qt32 (c0 c1 : D) : List Arg := [.c c0, .c c1]
attribute [go_sem] qw32 qp32 qt32 qE32
abbrev qA33 := ByteArray × Int
def qw33 (a0 : ByteArray) (a1 : Int) : List Arg := [.c (.str a0), .c (.int .u8 a1)]
def qE33 : qA33 → List Arg := fun ⟨a0, a1⟩ => qw33 a0 a1
def qd33 (a : List Arg) : qA33 := (dStr (aCell a 0 0), dInt (aCell a 1 0))
def qp33 {β : Type} (f : ByteArray → Int → β) (c0 c1 : D) : β := f (dStr c0) (dInt c1)
def qt33 (c0 c1 : D) : List Arg := [.c c0, .c c1]
attribute [go_sem] qw33 qp33 qt33 qE33
abbrev qA34 := Int × Int × (List (Int × Int)) × Int × Bool
def qw34 (a0 : Int) (a1 : Int) (a2 : List (Int × Int)) (a3 : Int) (a4 : Bool) : List Arg := [.c (.int .i64 a0), .c (.int .i64 a1), .c (encF 2 d_II a2), .c (.int .i64 a3), .c (.bool a4)]
def qE34 : qA34 → List Arg := fun ⟨a0, a1, a2, a3, a4⟩ => qw34 a0 a1 a2 a3 a4
def qd34 (a : List Arg) : qA34 := (dInt (aCell a 0 0), dInt (aCell a 1 0), decF g_II (aCell a 2 0), dInt (aCell a 3 0), dBool (aCell a 4 0))
def qp34 {β : Type} (f : Int → Int → (List (Int × Int)) → Int → Bool → β) (c0 c1 c2 c3 c4 : D) : β := f (dInt c0) (dInt c1) (decF g_II c2) (dInt c3) (dBool c4)
def qt34 (c0 c1 c2 c3 c4 : D) : List Arg := [.c c0, .c c1, .c c2, .c c3, .c c4]
attribute [go_sem] qw34 qp34 qt34 qE34
def qu17 (v : Int × Bool) : List RV := [.c (.d (.int .i64 v.1)), .c (.d (.err v.2))]
attribute [go_sem] qu17
def qu18 (v : (List (Int)) × Bool) : List RV := [.c (.own (encF 1 d_I v.1)), .c (.d (.bool v.2))]
attribute [go_sem] qu18
def qu19 (v : (List ((List (Int)))) × Bool) : List RV := [.c (.own (encF 1 d_LIE v.1)), .c (.d (.bool v.2))]
attribute [go_sem] qu19
def qu20 (v : (List (Int × Int × Int × Int)) × (List (Int × Int × Int × Int × Int)) × (List (Int × Int × Int)) × (List (Int × Int)) × Int × Int × Int × Int × Int) : List RV := [.agg [.own (encF 4 d_IIII v.1), .own (encF 5 d_IIIII v.2.1), .own (encF 3 d_III v.2.2.1), .own (encF 2 d_II v.2.2.2.1), .d (.int .i64 v.2.2.2.2.1), .d (.int .i64 v.2.2.2.2.2.1), .d (.int .i64 v.2.2.2.2.2.2.1), .d (.int .i64 v.2.2.2.2.2.2.2.1)], .c (.d (.int .i64 v.2.2.2.2.2.2.2.2))]
attribute [go_sem] qu20
def qu21 (v : Int × Bool) : List RV := [.c (.d (.int .i64 v.1)), .c (.d (.bool v.2))]
attribute [go_sem] qu21
/- strconv.Atoi -/
def r66 (a0 : ByteArray) : Option (Int × Bool) :=
  atoiV a0
def T66 : TSpec qA31 := mkT qE31 qd31 r66 qu17 false
theorem TP66 (c0 : D) : T66.sp.pre [.c c0] = (eqvArgs (qt31 c0) (qp31 qw31 c0) ∧ (qp31 r66 c0).isSome = true) := (rfl)
theorem TR66 (c0 : D) : T66.sp.res [.c c0] = qu17 ((qp31 r66 c0).getD default) := (rfl)
theorem TA66 : T66.sp.alias = false := (rfl)
attribute [go_sem] TP66 TR66 TA66
theorem v66 : Valid Tryz.prog 66 T66.sp := lib_Atoi (fun _ => rfl) (fun _ => rfl) (fun _ => rfl) rfl
theorem f66 : FnFact Tryz.prog 66 T66.sp := ⟨⟨Tryz.f66, Tryz.func66, by decide, rfl⟩, v66⟩

/- martensite/steel.numbers -/
def b35_1 (a1 : Int) : (ByteArray × (List (Int))) → Ctl (ByteArray × (List (Int))) ((List (Int)) × Bool) := fun s1 =>
  bindC (r85 s1.1 (⟨#[32]⟩ : ByteArray)) fun v1 =>
   if (decide (v1 < 0)) = true then
    .out ((r66 s1.1).bind fun v2 =>
     if (!(v2.2 || (decide (v2.1 < 0)))) = true → (r59 v2.1).isSome = true then
      if (((v2.2 || (decide (v2.1 < 0))) || (!(decide (((r59 v2.1).getD default) = s1.1)))) || (decide ((s1.1.size : Int) > 7))) = true then
       some ([], false)
       else if (s1.2.length + 1) * 8 ≤ 140737488355328 ∧ s1.2.length + 1 ≤ 9223372036854775807 then
        some (s1.2 ++ [v2.1], ((s1.2.length + 1) : Int) == a1)
        else none
      else none)
    else if 0 ≤ 0 ∧ 0 ≤ IntKind.i64.wrap (v1 + 0) ∧ IntKind.i64.wrap (v1 + 0) ≤ (s1.1.size : Int) then
     bindC (r66 (s1.1.extract 0 (IntKind.i64.wrap (v1 + 0)).toNat)) fun v5 =>
      if (!(v5.2 || (decide (v5.1 < 0)))) = true → (r59 v5.1).isSome = true then
       if (((v5.2 || (decide (v5.1 < 0))) || (!(decide (((r59 v5.1).getD default) = (s1.1.extract 0 (IntKind.i64.wrap (v1 + 0)).toNat))))) || (decide (((s1.1.extract 0 (IntKind.i64.wrap (v1 + 0)).toNat).size : Int) > 7))) = true then
        .out (some ([], false))
        else if (s1.2.length + 1) * 8 ≤ 140737488355328 ∧ s1.2.length + 1 ≤ 9223372036854775807 then
         if 0 ≤ IntKind.i64.wrap (v1 + 1) ∧ IntKind.i64.wrap (v1 + 1) ≤ (s1.1.size : Int) ∧ (s1.1.size : Int) ≤ (s1.1.size : Int) then
          .next (s1.1.extract (IntKind.i64.wrap (v1 + 1)).toNat s1.1.size, s1.2 ++ [v5.1])
          else .out none
         else .out none
       else .out none
     else .out none
def r35 (a0 : ByteArray) (a1 : Int) : Option ((List (Int)) × Bool) :=
  iterC (b35_1 a1) 1000000000 (a0, [])
def T35 : TSpec qA32 := mkT qE32 qd32 (fun ⟨a0, a1⟩ => r35 a0 a1) qu18 false
theorem TP35 (c0 c1 : D) : T35.sp.pre [.c c0, .c c1] = (eqvArgs (qt32 c0 c1) (qp32 qw32 c0 c1) ∧ (qp32 r35 c0 c1).isSome = true) := (rfl)
theorem TR35 (c0 c1 : D) : T35.sp.res [.c c0, .c c1] = qu18 ((qp32 r35 c0 c1).getD default) := (rfl)
theorem TA35 : T35.sp.alias = false := (rfl)
def tb35 : Fns := lk [(59, T59.sp), (66, T66.sp), (85, T85.sp)]
theorem tb35_ok : FnsOk Tryz.prog tb35 := .cons f59 (.cons f66 (.cons f85 (FnsOk.nil)))
theorem tb35_59 : tb35 59 = some T59.sp := rfl
theorem tb35_66 : tb35 66 = some T66.sp := rfl
theorem tb35_85 : tb35 85 = some T85.sp := rfl
theorem lt35_0 : (((#[32] : Array UInt8).size : Int)) = 1 := by first | rfl | decide | simp
theorem lt35_1 : ((((1 : Int)) == 0)) = false := by first | rfl | decide | simp
attribute [go_sem] TP35 TR35 TA35
section
attribute [local go_sem] T35 tb35_59 tb35_66 tb35_85 Tryz.results35 Tryz.results64 Tryz.results86 Tryz.results110 lt35_0 lt35_1
theorem v35 : Valid Tryz.prog 35 T35.sp := by
 refine valid_t (fn := Tryz.f35) (n := 44) ty_ok tb35_ok Tryz.func35 rfl Tryz.ntmps35 ?_
 rintro ⟨a0, a1⟩ hx
 obtain ⟨r, hr⟩ := oE (show (r35 a0 a1).isSome = true from hx)
 have hres : T35.res (a0, a1) = qu18 r := by simp only [T35, mkT, hr, oG]
 refine ⟨nL rfl, fun stop S => ?_⟩
 rw [hres] at S
 unfold r35 at hr
 refine S.gx [2] ?_
 repeat refine gA ?_
 refine S.inl 1 [1, 4, 5, 6] [] Tryz.func64 (by decide) rfl Tryz.ntmps64 (fun cx e => drawn_ok ty_ok tb35_ok cx e) (some 11) rfl rfl rfl rfl (nL rfl) (nL rfl) ?_
 refine gs ?_
 repeat refine gA ?_
 intro stop1 S1
 refine S1.gx [1] ?_
 repeat refine gA ?_
 refine S1.inl 2 [] [] Tryz.func86 (by decide) rfl Tryz.ntmps86 (fun cx e => drawn_ok ty_ok tb35_ok cx e) (some 7) rfl rfl rfl rfl (nL rfl) (nL rfl) ?_
 refine gs ?_
 repeat refine gA ?_
 intro stop2 S2
 refine S2.gx [] ?_
 repeat refine gA ?_
 refine S1.gx [1] ?_
 repeat refine gA ?_
 refine S.gx [2] ?_
 repeat refine gA ?_
 refine S.range [1, 4, 5, 6] Tryz.func110 (by decide) rfl Tryz.ntmps110 Tryz.results110 (fun cx e => drawn_ok ty_ok tb35_ok cx e) (fun cx e => drawn_ok ty_ok tb35_ok cx e) (by decide) rfl rfl (nL rfl) ?_
 intro l1 stop1 stopJ1 S1 SJ1 Y1
 refine S1.gx [3, 8, 10] ?_
 repeat refine gA ?_
 refine S1.own0b 6 0 2000600 1 rfl rfl (nL rfl) rfl ?_
 refine S1.sees [0, 1, 2, 3] [(100004, 100004), (3, 3), (100005, 100005), (4, 4), (5, 5), (6, 6)] [(2000600, 2000600)] ?_ (Stop.iter S1 (fun s1 => ⟨[(0, .c (.yld l1)), (1, .c (.ref 100004 0)), (2, .c (.ref 3 0)), (3, .c (.ref 100005 0))], [(100004, [.d (.str (⟨#[32]⟩ : ByteArray))]), (3, [.d (.str s1.1)]), (100005, [.d (.int .i64 0)]), (4, [.nils]), (5, [.d (.bool false)]), (6, [.own 2000600])], [(2000600, .owned (encF 1 d_I s1.2))]⟩) (b35_1 a1) (fun q => q = r) hr rfl ?_)
 ·exact lf
 ·intro s1 hr
  unfold b35_1 at hr
  refine S1.gx [3, 8, 10] ?_
  obtain ⟨v1, hv1, hr⟩ := of_bind1 hr
  try simp only [hv1, oG, oI, true_and, and_assoc]
  repeat refine gA ?_
  refine ⟨?_, ?_⟩ <;> intro hc
  ·have hr := ifP1 hr hc
   repeat refine gA ?_
   have hr := of_out0 hr
   repeat refine gA ?_
   refine Y1 2 [] (some 51) rfl rfl rfl rfl (nL rfl) (by rfl) ?_
   refine gs ?_
   repeat refine gA ?_
   intro stopA2 SA2
   refine SA2.gx [] ?_
   repeat refine gA ?_
   intro stop2 S2
   refine S2.gx [2] ?_
   obtain ⟨v2, hv2, hr⟩ := of_bind0 hr
   obtain ⟨hg4, hr⟩ := of_guard0 hr
   try simp only [hv2, oG, oI, true_and, and_assoc]
   repeat (first | refine gG hg4 ?_ | refine gA ?_ | refine gB ?_)
   refine ⟨?_, ?_⟩ <;> intro hc
   ·have hr := ifP hr hc
    repeat refine gA ?_
    refine (SJ1 .ret).gx [3, 8, 10] ?_
    repeat refine gA ?_
    refine S.gx [2] ?_
    repeat refine gA ?_
    cases hr
    exact lf
   ·have hr := ifN hr hc
    obtain ⟨hg3, hr⟩ := of_guard0 hr
    repeat refine gA ?_
    refine S1.gx [3, 8, 10] ?_
    repeat refine gA ?_
    refine S.gx [2] ?_
    repeat refine gA ?_
    cases hr
    exact lf
  ·have hr := ifN1 hr hc
   obtain ⟨hg9, hr⟩ := of_guard1 hr
   repeat refine gA ?_
   refine Y1 2 [0, 1, 2, 3, 7] (some 41) rfl rfl rfl rfl (nL rfl) (by rfl) ?_
   refine gs ?_
   repeat refine gA ?_
   intro stopA2 SA2
   refine SA2.gx [] ?_
   repeat refine gA ?_
   intro stop2 S2
   refine S2.gx [2] ?_
   obtain ⟨v5, hv5, hr⟩ := of_bind1 hr
   obtain ⟨hg8, hr⟩ := of_guard1 hr
   try simp only [hv5, oG, oI, true_and, and_assoc]
   repeat (first | refine gG hg8 ?_ | refine gA ?_ | refine gB ?_)
   refine ⟨?_, ?_⟩ <;> intro hc
   ·have hr := ifP1 hr hc
    repeat refine gA ?_
    refine (SJ1 .ret).gx [3, 8, 10] ?_
    repeat refine gA ?_
    have hr := of_out0 hr
    repeat refine gA ?_
    refine S.gx [2] ?_
    repeat refine gA ?_
    cases hr
    exact lf
   ·have hr := ifN1 hr hc
    obtain ⟨hg7, hr⟩ := of_guard1 hr
    repeat refine gA ?_
    refine S1.gx [3, 8, 10] ?_
    obtain ⟨hg6, hr⟩ := of_guard1 hr
    repeat refine gA ?_
    refine S1.sees [0, 1, 2, 3] [(100004, 100004), (3, 3), (100005, 100005), (4, 4), (5, 5), (6, 6)] [(38, 2000600)] ?_ hr
    exact lf
theorem f35 : FnFact Tryz.prog 35 T35.sp := ⟨⟨Tryz.f35, Tryz.func35, by decide, rfl⟩, v35⟩
end

/- martensite/steel.knots -/
def b33_1 (a1 : Int) : (ByteArray × (List ((List (Int))))) → Ctl (ByteArray × (List ((List (Int))))) ((List ((List (Int)))) × Bool) := fun s1 =>
  bindC (r85 s1.1 (⟨#[59]⟩ : ByteArray)) fun v1 =>
   if (decide (v1 < 0)) = true then
    .out ((r35 s1.1 a1).bind fun v2 =>
     if (!v2.2) = true then
      some ([], false)
      else if (s1.2.length + 1) * 24 ≤ 140737488355328 ∧ s1.2.length + 1 ≤ 9223372036854775807 then
       some (s1.2 ++ [v2.1], true)
       else none)
    else if 0 ≤ 0 ∧ 0 ≤ IntKind.i64.wrap (v1 + 0) ∧ IntKind.i64.wrap (v1 + 0) ≤ (s1.1.size : Int) then
     bindC (r35 (s1.1.extract 0 (IntKind.i64.wrap (v1 + 0)).toNat) a1) fun v4 =>
      if (!v4.2) = true then
       .out (some ([], false))
       else if (s1.2.length + 1) * 24 ≤ 140737488355328 ∧ s1.2.length + 1 ≤ 9223372036854775807 then
        if 0 ≤ IntKind.i64.wrap (v1 + 1) ∧ IntKind.i64.wrap (v1 + 1) ≤ (s1.1.size : Int) ∧ (s1.1.size : Int) ≤ (s1.1.size : Int) then
         .next (s1.1.extract (IntKind.i64.wrap (v1 + 1)).toNat s1.1.size, s1.2 ++ [v4.1])
         else .out none
        else .out none
     else .out none
def r33 (a0 : ByteArray) (a1 : Int) : Option ((List ((List (Int)))) × Bool) :=
  if (decide (a0 = (⟨#[]⟩ : ByteArray))) = true then
   some ([], true)
   else iterC (b33_1 a1) 1000000000 (a0, [])
def T33 : TSpec qA32 := mkT qE32 qd32 (fun ⟨a0, a1⟩ => r33 a0 a1) qu19 true
theorem TP33 (c0 c1 : D) : T33.sp.pre [.c c0, .c c1] = (eqvArgs (qt32 c0 c1) (qp32 qw32 c0 c1) ∧ (qp32 r33 c0 c1).isSome = true) := (rfl)
theorem TR33 (c0 c1 : D) : T33.sp.res [.c c0, .c c1] = qu19 ((qp32 r33 c0 c1).getD default) := (rfl)
theorem TA33 : T33.sp.alias = true := (rfl)
def tb33 : Fns := lk [(35, T35.sp), (85, T85.sp)]
theorem tb33_ok : FnsOk Tryz.prog tb33 := .cons f35 (.cons f85 (FnsOk.nil))
theorem tb33_35 : tb33 35 = some T35.sp := rfl
theorem tb33_85 : tb33 85 = some T85.sp := rfl
theorem lt33_0 : (((#[59] : Array UInt8).size : Int)) = 1 := by first | rfl | decide | simp
theorem lt33_1 : ((((1 : Int)) == 0)) = false := by first | rfl | decide | simp
attribute [go_sem] TP33 TR33 TA33
section
attribute [local go_sem] T33 tb33_35 tb33_85 Tryz.results33 Tryz.results64 Tryz.results86 Tryz.results110 lt33_0 lt33_1
theorem v33 : Valid Tryz.prog 33 T33.sp := by
 refine valid_t (fn := Tryz.f33) (n := 28) ty_ok tb33_ok Tryz.func33 rfl Tryz.ntmps33 ?_
 rintro ⟨a0, a1⟩ hx
 obtain ⟨r, hr⟩ := oE (show (r33 a0 a1).isSome = true from hx)
 have hres : T33.res (a0, a1) = qu19 r := by simp only [T33, mkT, hr, oG]
 refine ⟨nL rfl, fun stop S => ?_⟩
 rw [hres] at S
 unfold r33 at hr
 refine S.gx [4] ?_
 repeat refine gA ?_
 refine ⟨?_, ?_⟩ <;> intro hc
 ·have hr := ifP hr hc
  repeat refine gA ?_
  cases hr
  exact lf
 ·have hr := ifN hr hc
  repeat refine gA ?_
  refine S.inl 1 [3, 4, 5, 6] [] Tryz.func64 (by decide) rfl Tryz.ntmps64 (fun cx e => drawn_ok ty_ok tb33_ok cx e) (some 13) rfl rfl rfl rfl (nL rfl) (nL rfl) ?_
  refine gs ?_
  repeat refine gA ?_
  intro stop1 S1
  refine S1.gx [1] ?_
  repeat refine gA ?_
  refine S1.inl 2 [] [] Tryz.func86 (by decide) rfl Tryz.ntmps86 (fun cx e => drawn_ok ty_ok tb33_ok cx e) (some 7) rfl rfl rfl rfl (nL rfl) (nL rfl) ?_
  refine gs ?_
  repeat refine gA ?_
  intro stop2 S2
  refine S2.gx [] ?_
  repeat refine gA ?_
  refine S1.gx [1] ?_
  repeat refine gA ?_
  refine S.gx [4] ?_
  repeat refine gA ?_
  refine S.range [3, 4, 5, 6] Tryz.func110 (by decide) rfl Tryz.ntmps110 Tryz.results110 (fun cx e => drawn_ok ty_ok tb33_ok cx e) (fun cx e => drawn_ok ty_ok tb33_ok cx e) (by decide) rfl rfl (nL rfl) ?_
  intro l1 stop1 stopJ1 S1 SJ1 Y1
  refine S1.gx [3, 8, 10] ?_
  repeat refine gA ?_
  refine S1.own0b 6 0 2000600 1 rfl rfl (nL rfl) rfl ?_
  refine S1.sees [0, 1, 2, 3] [(100004, 100004), (100003, 100003), (100005, 100005), (3, 3), (4, 4), (5, 5), (6, 6)] [(2000600, 2000600)] ?_ (Stop.iter S1 (fun s1 => ⟨[(0, .c (.yld l1)), (1, .c (.ref 100004 0)), (2, .c (.ref 100003 0)), (3, .c (.ref 100005 0))], [(100004, [.d (.str (⟨#[59]⟩ : ByteArray))]), (100003, [.d (.str s1.1)]), (100005, [.d (.int .i64 0)]), (3, [.d (.int .i64 a1)]), (4, [.nils]), (5, [.d (.bool false)]), (6, [.own 2000600])], [(2000600, .owned (encF 1 d_LIE s1.2))]⟩) (b33_1 a1) (fun q => q = r) hr rfl ?_)
  ·exact lf
  ·intro s1 hr
   unfold b33_1 at hr
   refine S1.gx [3, 8, 10] ?_
   obtain ⟨v1, hv1, hr⟩ := of_bind1 hr
   try simp only [hv1, oG, oI, true_and, and_assoc]
   repeat refine gA ?_
   refine ⟨?_, ?_⟩ <;> intro hc
   ·have hr := ifP1 hr hc
    repeat refine gA ?_
    have hr := of_out0 hr
    repeat refine gA ?_
    refine Y1 2 [] (some 51) rfl rfl rfl rfl (nL rfl) (by rfl) ?_
    refine gs ?_
    repeat refine gA ?_
    intro stopA2 SA2
    refine SA2.gx [] ?_
    repeat refine gA ?_
    intro stop2 S2
    refine S2.gx [4] ?_
    obtain ⟨v2, hv2, hr⟩ := of_bind0 hr
    try simp only [hv2, oG, oI, true_and, and_assoc]
    repeat refine gA ?_
    refine ⟨?_, ?_⟩ <;> intro hc
    ·have hr := ifP hr hc
     repeat refine gA ?_
     refine (SJ1 .ret).gx [3, 8, 10] ?_
     repeat refine gA ?_
     refine S.gx [4] ?_
     repeat refine gA ?_
     cases hr
     exact lf
    ·have hr := ifN hr hc
     obtain ⟨hg3, hr⟩ := of_guard0 hr
     repeat refine gA ?_
     refine S1.gx [3, 8, 10] ?_
     repeat refine gA ?_
     refine S.gx [4] ?_
     repeat refine gA ?_
     cases hr
     exact lf
   ·have hr := ifN1 hr hc
    obtain ⟨hg7, hr⟩ := of_guard1 hr
    repeat refine gA ?_
    refine Y1 2 [0, 1, 2, 3, 7] (some 41) rfl rfl rfl rfl (nL rfl) (by rfl) ?_
    refine gs ?_
    repeat refine gA ?_
    intro stopA2 SA2
    refine SA2.gx [] ?_
    repeat refine gA ?_
    intro stop2 S2
    refine S2.gx [4] ?_
    obtain ⟨v4, hv4, hr⟩ := of_bind1 hr
    try simp only [hv4, oG, oI, true_and, and_assoc]
    repeat refine gA ?_
    refine ⟨?_, ?_⟩ <;> intro hc
    ·have hr := ifP1 hr hc
     repeat refine gA ?_
     refine (SJ1 .ret).gx [3, 8, 10] ?_
     repeat refine gA ?_
     have hr := of_out0 hr
     repeat refine gA ?_
     refine S.gx [4] ?_
     repeat refine gA ?_
     cases hr
     exact lf
    ·have hr := ifN1 hr hc
     obtain ⟨hg6, hr⟩ := of_guard1 hr
     repeat refine gA ?_
     refine S1.gx [3, 8, 10] ?_
     obtain ⟨hg5, hr⟩ := of_guard1 hr
     repeat refine gA ?_
     refine S1.sees [0, 1, 2, 3] [(100004, 100004), (100003, 100003), (100005, 100005), (3, 3), (4, 4), (5, 5), (6, 6)] [(26, 2000600)] ?_ hr
     exact lf
theorem f33 : FnFact Tryz.prog 33 T33.sp := ⟨⟨Tryz.f33, Tryz.func33, by decide, rfl⟩, v33⟩
end

/- martensite/steel.ParseRules -/
def b9_2 (s1 : Int × (List (Int × Int × Int × Int)) × (List (Int × Int × Int × Int × Int)) × (List (Int × Int × Int)) × (List (Int × Int)) × Int × Int × Int × Int) (v3 : (List ((List (Int)))) × Bool) : (Int × Int × Int × Int × Int) → Ctl (Int × Int × Int × Int × Int) (Ctl (Int × (List (Int × Int × Int × Int)) × (List (Int × Int × Int × Int × Int)) × (List (Int × Int × Int)) × (List (Int × Int)) × Int × Int × Int × Int) ((List (Int × Int × Int × Int)) × (List (Int × Int × Int × Int × Int)) × (List (Int × Int × Int)) × (List (Int × Int)) × Int × Int × Int × Int × Int)) := fun s2 =>
  if (decide (s2.1 < (v3.1.length : Int))) = true then
   if 0 ≤ s2.1 ∧ s2.1 < (v3.1.length : Int) then
    if 4 ≤ (v3.1.getD s2.1.toNat default).length then
     .next (IntKind.i64.wrap (s2.1 + 1), ((v3.1.getD s2.1.toNat default).getD 0 default), ((v3.1.getD s2.1.toNat default).getD 1 default), ((v3.1.getD s2.1.toNat default).getD 2 default), ((v3.1.getD s2.1.toNat default).getD 3 default))
     else .out none
    else .out none
   else .out (some (.next (5, s1.2.1, s1.2.2.1, s1.2.2.2.1, s1.2.2.2.2.1, s2.2.1, s2.2.2.1, s2.2.2.2.1, s2.2.2.2.2)))
def b9_3 (s1 : Int × (List (Int × Int × Int × Int)) × (List (Int × Int × Int × Int × Int)) × (List (Int × Int × Int)) × (List (Int × Int)) × Int × Int × Int × Int) (v7 : (List ((List (Int)))) × Bool) : (Int × (List (Int × Int))) → Ctl (Int × (List (Int × Int))) (Ctl (Int × (List (Int × Int × Int × Int)) × (List (Int × Int × Int × Int × Int)) × (List (Int × Int × Int)) × (List (Int × Int)) × Int × Int × Int × Int) ((List (Int × Int × Int × Int)) × (List (Int × Int × Int × Int × Int)) × (List (Int × Int × Int)) × (List (Int × Int)) × Int × Int × Int × Int × Int)) := fun s3 =>
  if (decide (s3.1 < (v7.1.length : Int))) = true then
   if 0 ≤ s3.1 ∧ s3.1 < (v7.1.length : Int) then
    if 0 ≤ 0 ∧ 0 < ((v7.1.getD s3.1.toNat default).length : Int) then
     if 0 ≤ 1 ∧ 1 < ((v7.1.getD s3.1.toNat default).length : Int) then
      if (s3.2.length + 1) * 16 ≤ 140737488355328 ∧ s3.2.length + 1 ≤ 9223372036854775807 then
       .next (IntKind.i64.wrap (s3.1 + 1), s3.2 ++ [(((v7.1.getD s3.1.toNat default).getD 0 default), ((v7.1.getD s3.1.toNat default).getD 1 default))])
       else .out none
      else .out none
     else .out none
    else .out none
   else .out (some (.next (4, s1.2.1, s1.2.2.1, s1.2.2.2.1, s3.2, s1.2.2.2.2.2.1, s1.2.2.2.2.2.2.1, s1.2.2.2.2.2.2.2.1, s1.2.2.2.2.2.2.2.2)))
def b9_4 (s1 : Int × (List (Int × Int × Int × Int)) × (List (Int × Int × Int × Int × Int)) × (List (Int × Int × Int)) × (List (Int × Int)) × Int × Int × Int × Int) (v13 : (List ((List (Int)))) × Bool) : (Int × (List (Int × Int × Int))) → Ctl (Int × (List (Int × Int × Int))) (Ctl (Int × (List (Int × Int × Int × Int)) × (List (Int × Int × Int × Int × Int)) × (List (Int × Int × Int)) × (List (Int × Int)) × Int × Int × Int × Int) ((List (Int × Int × Int × Int)) × (List (Int × Int × Int × Int × Int)) × (List (Int × Int × Int)) × (List (Int × Int)) × Int × Int × Int × Int × Int)) := fun s4 =>
  if (decide (s4.1 < (v13.1.length : Int))) = true then
   if 0 ≤ s4.1 ∧ s4.1 < (v13.1.length : Int) then
    if 0 ≤ 0 ∧ 0 < ((v13.1.getD s4.1.toNat default).length : Int) then
     if 0 ≤ 1 ∧ 1 < ((v13.1.getD s4.1.toNat default).length : Int) then
      if 0 ≤ 2 ∧ 2 < ((v13.1.getD s4.1.toNat default).length : Int) then
       if (s4.2.length + 1) * 24 ≤ 140737488355328 ∧ s4.2.length + 1 ≤ 9223372036854775807 then
        .next (IntKind.i64.wrap (s4.1 + 1), s4.2 ++ [(((v13.1.getD s4.1.toNat default).getD 0 default), ((v13.1.getD s4.1.toNat default).getD 1 default), ((v13.1.getD s4.1.toNat default).getD 2 default))])
        else .out none
       else .out none
      else .out none
     else .out none
    else .out none
   else .out (some (.next (3, s1.2.1, s1.2.2.1, s4.2, s1.2.2.2.2.1, s1.2.2.2.2.2.1, s1.2.2.2.2.2.2.1, s1.2.2.2.2.2.2.2.1, s1.2.2.2.2.2.2.2.2)))
def b9_5 (s1 : Int × (List (Int × Int × Int × Int)) × (List (Int × Int × Int × Int × Int)) × (List (Int × Int × Int)) × (List (Int × Int)) × Int × Int × Int × Int) (v20 : (List ((List (Int)))) × Bool) : (Int × (List (Int × Int × Int × Int × Int))) → Ctl (Int × (List (Int × Int × Int × Int × Int))) (Ctl (Int × (List (Int × Int × Int × Int)) × (List (Int × Int × Int × Int × Int)) × (List (Int × Int × Int)) × (List (Int × Int)) × Int × Int × Int × Int) ((List (Int × Int × Int × Int)) × (List (Int × Int × Int × Int × Int)) × (List (Int × Int × Int)) × (List (Int × Int)) × Int × Int × Int × Int × Int)) := fun s5 =>
  if (decide (s5.1 < (v20.1.length : Int))) = true then
   if 0 ≤ s5.1 ∧ s5.1 < (v20.1.length : Int) then
    if 0 ≤ 0 ∧ 0 < ((v20.1.getD s5.1.toNat default).length : Int) then
     if 0 ≤ 1 ∧ 1 < ((v20.1.getD s5.1.toNat default).length : Int) then
      if 0 ≤ 2 ∧ 2 < ((v20.1.getD s5.1.toNat default).length : Int) then
       if 0 ≤ 3 ∧ 3 < ((v20.1.getD s5.1.toNat default).length : Int) then
        if 0 ≤ 4 ∧ 4 < ((v20.1.getD s5.1.toNat default).length : Int) then
         if (s5.2.length + 1) * 40 ≤ 140737488355328 ∧ s5.2.length + 1 ≤ 9223372036854775807 then
          .next (IntKind.i64.wrap (s5.1 + 1), s5.2 ++ [(((v20.1.getD s5.1.toNat default).getD 0 default), ((v20.1.getD s5.1.toNat default).getD 1 default), ((v20.1.getD s5.1.toNat default).getD 2 default), ((v20.1.getD s5.1.toNat default).getD 3 default), ((v20.1.getD s5.1.toNat default).getD 4 default))])
          else .out none
         else .out none
        else .out none
       else .out none
      else .out none
     else .out none
    else .out none
   else .out (some (.next (2, s1.2.1, s5.2, s1.2.2.2.1, s1.2.2.2.2.1, s1.2.2.2.2.2.1, s1.2.2.2.2.2.2.1, s1.2.2.2.2.2.2.2.1, s1.2.2.2.2.2.2.2.2)))
def b9_6 (s1 : Int × (List (Int × Int × Int × Int)) × (List (Int × Int × Int × Int × Int)) × (List (Int × Int × Int)) × (List (Int × Int)) × Int × Int × Int × Int) (v29 : (List ((List (Int)))) × Bool) : (Int × (List (Int × Int × Int × Int))) → Ctl (Int × (List (Int × Int × Int × Int))) (Ctl (Int × (List (Int × Int × Int × Int)) × (List (Int × Int × Int × Int × Int)) × (List (Int × Int × Int)) × (List (Int × Int)) × Int × Int × Int × Int) ((List (Int × Int × Int × Int)) × (List (Int × Int × Int × Int × Int)) × (List (Int × Int × Int)) × (List (Int × Int)) × Int × Int × Int × Int × Int)) := fun s6 =>
  if (decide (s6.1 < (v29.1.length : Int))) = true then
   if 0 ≤ s6.1 ∧ s6.1 < (v29.1.length : Int) then
    if 0 ≤ 0 ∧ 0 < ((v29.1.getD s6.1.toNat default).length : Int) then
     if 0 ≤ 1 ∧ 1 < ((v29.1.getD s6.1.toNat default).length : Int) then
      if 0 ≤ 2 ∧ 2 < ((v29.1.getD s6.1.toNat default).length : Int) then
       if 0 ≤ 3 ∧ 3 < ((v29.1.getD s6.1.toNat default).length : Int) then
        if (s6.2.length + 1) * 32 ≤ 140737488355328 ∧ s6.2.length + 1 ≤ 9223372036854775807 then
         .next (IntKind.i64.wrap (s6.1 + 1), s6.2 ++ [(((v29.1.getD s6.1.toNat default).getD 0 default), ((v29.1.getD s6.1.toNat default).getD 1 default), ((v29.1.getD s6.1.toNat default).getD 2 default), ((v29.1.getD s6.1.toNat default).getD 3 default))])
         else .out none
        else .out none
       else .out none
      else .out none
     else .out none
    else .out none
   else .out (some (.next (1, s6.2, s1.2.2.1, s1.2.2.2.1, s1.2.2.2.2.1, s1.2.2.2.2.2.1, s1.2.2.2.2.2.2.1, s1.2.2.2.2.2.2.2.1, s1.2.2.2.2.2.2.2.2)))
def b9_1 (v1 : (List (ByteArray))) : (Int × (List (Int × Int × Int × Int)) × (List (Int × Int × Int × Int × Int)) × (List (Int × Int × Int)) × (List (Int × Int)) × Int × Int × Int × Int) → Ctl (Int × (List (Int × Int × Int × Int)) × (List (Int × Int × Int × Int × Int)) × (List (Int × Int × Int)) × (List (Int × Int)) × Int × Int × Int × Int) ((List (Int × Int × Int × Int)) × (List (Int × Int × Int × Int × Int)) × (List (Int × Int × Int)) × (List (Int × Int)) × Int × Int × Int × Int × Int) := fun s1 =>
  if (decide (s1.1 < (v1.length : Int))) = true then
   if 0 ≤ s1.1 ∧ s1.1 < (v1.length : Int) then
    if s1.1 = 0 then
     bindC (r33 (v1.getD 0 default) 4) fun v29 =>
      if ((!v29.2) || ((0 == (IntKind.i64.wrap ((v1.length : Int) - 1))) && ((v29.1.length : Int) != 1))) = true then
       .out (some ([], [], [], [], 0, 0, 0, 0, 7))
       else (iterC (b9_6 s1 v29) 1000000000 (0, s1.2.1)).getD (.out none)
     else if s1.1 = 1 then
      bindC (r33 (v1.getD 1 default) 5) fun v20 =>
       if ((!v20.2) || ((1 == (IntKind.i64.wrap ((v1.length : Int) - 1))) && ((v20.1.length : Int) != 1))) = true then
        .out (some ([], [], [], [], 0, 0, 0, 0, 7))
        else (iterC (b9_5 s1 v20) 1000000000 (0, s1.2.2.1)).getD (.out none)
      else if s1.1 = 2 then
       bindC (r33 (v1.getD 2 default) 3) fun v13 =>
        if ((!v13.2) || ((2 == (IntKind.i64.wrap ((v1.length : Int) - 1))) && ((v13.1.length : Int) != 1))) = true then
         .out (some ([], [], [], [], 0, 0, 0, 0, 7))
         else (iterC (b9_4 s1 v13) 1000000000 (0, s1.2.2.2.1)).getD (.out none)
       else if s1.1 = 3 then
        bindC (r33 (v1.getD 3 default) 2) fun v7 =>
         if ((!v7.2) || ((3 == (IntKind.i64.wrap ((v1.length : Int) - 1))) && ((v7.1.length : Int) != 1))) = true then
          .out (some ([], [], [], [], 0, 0, 0, 0, 7))
          else (iterC (b9_3 s1 v7) 1000000000 (0, s1.2.2.2.2.1)).getD (.out none)
        else if s1.1 = 4 then
         bindC (r33 (v1.getD 4 default) 4) fun v3 =>
          if ((!v3.2) || ((4 == (IntKind.i64.wrap ((v1.length : Int) - 1))) && ((v3.1.length : Int) != 1))) = true then
           .out (some ([], [], [], [], 0, 0, 0, 0, 7))
           else (iterC (b9_2 s1 v3) 1000000000 (0, s1.2.2.2.2.2.1, s1.2.2.2.2.2.2.1, s1.2.2.2.2.2.2.2.1, s1.2.2.2.2.2.2.2.2)).getD (.out none)
         else .out none
    else .out none
   else .out ((r34 s1.2.1 s1.2.2.1 s1.2.2.2.1 s1.2.2.2.2.1 s1.2.2.2.2.2.1 s1.2.2.2.2.2.2.1 s1.2.2.2.2.2.2.2.1 s1.2.2.2.2.2.2.2.2).bind fun v37 =>
    if (v37 != 0) = true then
     some ([], [], [], [], 0, 0, 0, 0, v37)
     else some (s1.2.1, s1.2.2.1, s1.2.2.2.1, s1.2.2.2.2.1, s1.2.2.2.2.2.1, s1.2.2.2.2.2.2.1, s1.2.2.2.2.2.2.2.1, s1.2.2.2.2.2.2.2.2, 0))
def r9 (a0 : ByteArray) : Option ((List (Int × Int × Int × Int)) × (List (Int × Int × Int × Int × Int)) × (List (Int × Int × Int)) × (List (Int × Int)) × Int × Int × Int × Int × Int) :=
  if (decide ((a0.size : Int) > 60000)) = true then
   some ([], [], [], [], 0, 0, 0, 0, 8)
   else (r32 a0 (⟨#[47]⟩ : ByteArray)).bind fun v1 =>
    if ((v1.length : Int) != 5) = true then
     some ([], [], [], [], 0, 0, 0, 0, 7)
     else iterC (b9_1 v1) 1000000000 (0, [], [], [], [], 0, 0, 0, 0)
def T9 : TSpec qA31 := mkT qE31 qd31 r9 qu20 false
theorem TP9 (c0 : D) : T9.sp.pre [.c c0] = (eqvArgs (qt31 c0) (qp31 qw31 c0) ∧ (qp31 r9 c0).isSome = true) := (rfl)
theorem TR9 (c0 : D) : T9.sp.res [.c c0] = qu20 ((qp31 r9 c0).getD default) := (rfl)
theorem TA9 : T9.sp.alias = false := (rfl)
def tb9 : Fns := lk [(32, T32.sp), (33, T33.sp), (34, T34.sp)]
theorem tb9_ok : FnsOk Tryz.prog tb9 := .cons f32 (.cons f33 (.cons f34 (FnsOk.nil)))
theorem tb9_32 : tb9 32 = some T32.sp := rfl
theorem tb9_33 : tb9 33 = some T33.sp := rfl
theorem tb9_34 : tb9 34 = some T34.sp := rfl
theorem lt9_0 : (IntKind.i64.wrap (0 + 1)) = 1 := by first | rfl | decide | simp
theorem lt9_1 : (IntKind.i64.wrap (4 + 1)) = 5 := by first | rfl | decide | simp
theorem lt9_2 : (IntKind.i64.wrap (3 + 1)) = 4 := by first | rfl | decide | simp
theorem lt9_3 : (IntKind.i64.wrap (2 + 1)) = 3 := by first | rfl | decide | simp
theorem lt9_4 : (IntKind.i64.wrap (1 + 1)) = 2 := by first | rfl | decide | simp
attribute [go_sem] TP9 TR9 TA9
section
attribute [local go_sem] T9 tb9_32 tb9_33 tb9_34 Tryz.results9 Tryz.results27 Tryz.results28 Tryz.results29 Tryz.results30 Tryz.results31 lt9_0 lt9_1 lt9_2 lt9_3 lt9_4
theorem v9 : Valid Tryz.prog 9 T9.sp := by
 refine valid_t (fn := Tryz.f9) (n := 87) ty_ok tb9_ok Tryz.func9 rfl Tryz.ntmps9 ?_
 rintro a0 hx
 obtain ⟨r, hr⟩ := oE (show (r9 a0).isSome = true from hx)
 have hres : T9.res a0 = qu20 r := by simp only [T9, mkT, hr, oG]
 refine ⟨nL rfl, fun stop S => ?_⟩
 rw [hres] at S
 unfold r9 at hr
 refine S.gx [17, 11, 13] ?_
 repeat refine gA ?_
 refine ⟨?_, ?_⟩ <;> intro hc
 ·have hr := ifP hr hc
  repeat refine gA ?_
  cases hr
  exact lf
 ·have hr := ifN hr hc
  obtain ⟨v1, hv1, hr⟩ := of_bind0 hr
  try simp only [hv1, oG, oI, true_and, and_assoc]
  repeat refine gA ?_
  refine ⟨?_, ?_⟩ <;> intro hc
  ·have hr := ifP hr hc
   repeat refine gA ?_
   cases hr
   exact lf
  ·have hr := ifN hr hc
   repeat refine gA ?_
   refine S.own0b 4 0 2000400 4 rfl rfl (nL rfl) rfl ?_
   refine S.own0b 4 1 2000401 5 rfl rfl (nL rfl) rfl ?_
   refine S.own0b 4 2 2000402 3 rfl rfl (nL rfl) rfl ?_
   refine S.own0b 4 3 2000403 2 rfl rfl (nL rfl) rfl ?_
   refine S.sees [2, 4, 5, 6, 35, 36, 37] [(2, 2), (4, 4), (5, 5)] [(2000400, 2000400), (2000401, 2000401), (2000402, 2000402), (2000403, 2000403), (30, 30)] ?_ (Stop.iter S (fun s1 => ⟨[(2, .c (.ref 2 0)), (4, .c (.ref 4 0)), (5, .c (.ref 5 0)), (6, .c (.own 30)), (35, .c (.own 30)), (36, .c (.d (.int .i64 (v1.length : Int)))), (37, .c (.d (.int .i64 s1.1)))], [(2, [.nils, .nils, .nils, .nils, .d (.int .i64 0), .d (.int .i64 0), .d (.int .i64 0), .d (.int .i64 0)]), (4, [.own 2000400, .own 2000401, .own 2000402, .own 2000403, .d (.int .i64 s1.2.2.2.2.2.1), .d (.int .i64 s1.2.2.2.2.2.2.1), .d (.int .i64 s1.2.2.2.2.2.2.2.1), .d (.int .i64 s1.2.2.2.2.2.2.2.2)]), (5, [.d (.int .i64 4), .clo 27 [.ref 4 0], .d (.int .i64 5), .clo 28 [.ref 4 0], .d (.int .i64 3), .clo 29 [.ref 4 0], .d (.int .i64 2), .clo 30 [.ref 4 0], .d (.int .i64 4), .clo 31 [.ref 4 0]])], [(2000400, .owned (encF 4 d_IIII s1.2.1)), (2000401, .owned (encF 5 d_IIIII s1.2.2.1)), (2000402, .owned (encF 3 d_III s1.2.2.2.1)), (2000403, .owned (encF 2 d_II s1.2.2.2.2.1)), (30, .owned (encF 1 d_S v1))]⟩) (b9_1 v1) (fun q => q = r) hr rfl ?_)
   ·exact lf
   ·intro s1 hr
    unfold b9_1 at hr
    refine S.gx [17, 11, 13] ?_
    repeat refine gA ?_
    refine ⟨?_, ?_⟩ <;> intro hc
    ·have hr := ifP1 hr hc
     obtain ⟨hg36, hr⟩ := of_guard1 hr
     repeat refine gA ?_
     by_cases hs28 : s1.1 = 0
     ·rw [if_pos hs28] at hr
      simp only [hs28]
      refine S.gx [17, 13] ?_
      obtain ⟨v29, hv29, hr⟩ := of_bind1 hr
      try simp only [hv29, oG, oI, true_and, and_assoc]
      repeat refine gA ?_
      repeat (first | refine gA ?_ | refine gB ?_)
      refine ⟨?_, ?_⟩ <;> intro hc
      ·have hr := ifP1 hr hc
       repeat refine gA ?_
       refine S.prune [2] ?_
       refine S.gx [17, 11] ?_
       repeat refine gA ?_
       have hr := of_out0 hr
       cases hr
       exact lf
      ·have hr := ifN1 hr hc
       repeat refine gA ?_
       obtain ⟨q6, hq, hr⟩ := of_iter1 hr
       refine S.sees [2, 4, 5, 6, 7, 35, 36, 37, 66, 67, 68] [(2, 2), (4, 4), (5, 5)] [(30, 30), (48, 48), (2000400, 2000400), (2000401, 2000401), (2000402, 2000402), (2000403, 2000403)] ?_ (Stop.iter S (fun s6 => ⟨[(2, .c (.ref 2 0)), (4, .c (.ref 4 0)), (5, .c (.ref 5 0)), (6, .c (.own 30)), (7, .c (.d (.int .i64 0))), (35, .c (.own 30)), (36, .c (.d (.int .i64 (v1.length : Int)))), (37, .c (.d (.int .i64 0))), (66, .c (.own 48)), (67, .c (.d (.int .i64 (v29.1.length : Int)))), (68, .c (.d (.int .i64 s6.1)))], [(2, [.nils, .nils, .nils, .nils, .d (.int .i64 0), .d (.int .i64 0), .d (.int .i64 0), .d (.int .i64 0)]), (4, [.own 2000400, .own 2000401, .own 2000402, .own 2000403, .d (.int .i64 s1.2.2.2.2.2.1), .d (.int .i64 s1.2.2.2.2.2.2.1), .d (.int .i64 s1.2.2.2.2.2.2.2.1), .d (.int .i64 s1.2.2.2.2.2.2.2.2)]), (5, [.d (.int .i64 4), .clo 27 [.ref 4 0], .d (.int .i64 5), .clo 28 [.ref 4 0], .d (.int .i64 3), .clo 29 [.ref 4 0], .d (.int .i64 2), .clo 30 [.ref 4 0], .d (.int .i64 4), .clo 31 [.ref 4 0]])], [(30, .owned (encF 1 d_S v1)), (48, .owned (encF 1 d_LIE v29.1)), (2000400, .owned (encF 4 d_IIII s6.2)), (2000401, .owned (encF 5 d_IIIII s1.2.2.1)), (2000402, .owned (encF 3 d_III s1.2.2.2.1)), (2000403, .owned (encF 2 d_II s1.2.2.2.2.1))]⟩) (b9_6 s1 v29) _ hq hr ?_)
       ·exact lf
       ·intro s6 hr
        unfold b9_6 at hr
        refine S.gx [17, 11, 13] ?_
        repeat refine gA ?_
        refine ⟨?_, ?_⟩ <;> intro hc
        ·have hr := ifP1 hr hc
         obtain ⟨hg35, hr⟩ := of_guard1 hr
         repeat refine gA ?_
         refine S.inl 5 [2, 4, 5, 6, 7, 35, 36, 37, 66, 67, 68] [.ref 4 0] Tryz.func27 (by decide) rfl Tryz.ntmps27 (fun cx e => drawn_ok ty_ok tb9_ok cx e) (some 77) rfl rfl rfl rfl (nL rfl) (nL rfl) ?_
         refine gs ?_
         repeat refine gA ?_
         intro stop1 S1
         refine S1.gx [] ?_
         obtain ⟨hg30, hr⟩ := of_guard1 hr
         obtain ⟨hg31, hr⟩ := of_guard1 hr
         obtain ⟨hg32, hr⟩ := of_guard1 hr
         obtain ⟨hg33, hr⟩ := of_guard1 hr
         obtain ⟨hg34, hr⟩ := of_guard1 hr
         repeat refine gA ?_
         refine S.gx [17, 11, 13] ?_
         repeat refine gA ?_
         refine S.sees [2, 4, 5, 6, 7, 35, 36, 37, 66, 67, 68] [(2, 2), (4, 4), (5, 5)] [(30, 30), (48, 48), (20, 2000400), (2000401, 2000401), (2000402, 2000402), (2000403, 2000403)] ?_ hr
         exact lf
        ·have hr := ifN1 hr hc
         repeat refine gA ?_
         replace hr := goodC_out hr
         repeat refine gA ?_
         refine S.sees [2, 4, 5, 6, 35, 36, 37] [(2, 2), (4, 4), (5, 5)] [(2000400, 2000400), (2000401, 2000401), (2000402, 2000402), (2000403, 2000403), (30, 30)] ?_ hr
         exact lf
     ·rw [if_neg hs28] at hr
      by_cases hs19 : s1.1 = 1
      ·rw [if_pos hs19] at hr
       simp only [hs19]
       refine S.gx [17, 13] ?_
       obtain ⟨v20, hv20, hr⟩ := of_bind1 hr
       try simp only [hv20, oG, oI, true_and, and_assoc]
       repeat refine gA ?_
       repeat (first | refine gA ?_ | refine gB ?_)
       refine ⟨?_, ?_⟩ <;> intro hc
       ·have hr := ifP1 hr hc
        repeat refine gA ?_
        refine S.prune [2] ?_
        refine S.gx [17, 11] ?_
        repeat refine gA ?_
        have hr := of_out0 hr
        cases hr
        exact lf
       ·have hr := ifN1 hr hc
        repeat refine gA ?_
        obtain ⟨q5, hq, hr⟩ := of_iter1 hr
        refine S.sees [2, 4, 5, 6, 7, 35, 36, 37, 66, 67, 68] [(2, 2), (4, 4), (5, 5)] [(30, 30), (48, 48), (2000400, 2000400), (2000401, 2000401), (2000402, 2000402), (2000403, 2000403)] ?_ (Stop.iter S (fun s5 => ⟨[(2, .c (.ref 2 0)), (4, .c (.ref 4 0)), (5, .c (.ref 5 0)), (6, .c (.own 30)), (7, .c (.d (.int .i64 1))), (35, .c (.own 30)), (36, .c (.d (.int .i64 (v1.length : Int)))), (37, .c (.d (.int .i64 1))), (66, .c (.own 48)), (67, .c (.d (.int .i64 (v20.1.length : Int)))), (68, .c (.d (.int .i64 s5.1)))], [(2, [.nils, .nils, .nils, .nils, .d (.int .i64 0), .d (.int .i64 0), .d (.int .i64 0), .d (.int .i64 0)]), (4, [.own 2000400, .own 2000401, .own 2000402, .own 2000403, .d (.int .i64 s1.2.2.2.2.2.1), .d (.int .i64 s1.2.2.2.2.2.2.1), .d (.int .i64 s1.2.2.2.2.2.2.2.1), .d (.int .i64 s1.2.2.2.2.2.2.2.2)]), (5, [.d (.int .i64 4), .clo 27 [.ref 4 0], .d (.int .i64 5), .clo 28 [.ref 4 0], .d (.int .i64 3), .clo 29 [.ref 4 0], .d (.int .i64 2), .clo 30 [.ref 4 0], .d (.int .i64 4), .clo 31 [.ref 4 0]])], [(30, .owned (encF 1 d_S v1)), (48, .owned (encF 1 d_LIE v20.1)), (2000400, .owned (encF 4 d_IIII s1.2.1)), (2000401, .owned (encF 5 d_IIIII s5.2)), (2000402, .owned (encF 3 d_III s1.2.2.2.1)), (2000403, .owned (encF 2 d_II s1.2.2.2.2.1))]⟩) (b9_5 s1 v20) _ hq hr ?_)
        ·exact lf
        ·intro s5 hr
         unfold b9_5 at hr
         refine S.gx [17, 11, 13] ?_
         repeat refine gA ?_
         refine ⟨?_, ?_⟩ <;> intro hc
         ·have hr := ifP1 hr hc
          obtain ⟨hg27, hr⟩ := of_guard1 hr
          repeat refine gA ?_
          refine S.inl 5 [2, 4, 5, 6, 7, 35, 36, 37, 66, 67, 68] [.ref 4 0] Tryz.func28 (by decide) rfl Tryz.ntmps28 (fun cx e => drawn_ok ty_ok tb9_ok cx e) (some 77) rfl rfl rfl rfl (nL rfl) (nL rfl) ?_
          refine gs ?_
          repeat refine gA ?_
          intro stop1 S1
          refine S1.gx [] ?_
          obtain ⟨hg21, hr⟩ := of_guard1 hr
          obtain ⟨hg22, hr⟩ := of_guard1 hr
          obtain ⟨hg23, hr⟩ := of_guard1 hr
          obtain ⟨hg24, hr⟩ := of_guard1 hr
          obtain ⟨hg25, hr⟩ := of_guard1 hr
          obtain ⟨hg26, hr⟩ := of_guard1 hr
          repeat refine gA ?_
          refine S.gx [17, 11, 13] ?_
          repeat refine gA ?_
          refine S.sees [2, 4, 5, 6, 7, 35, 36, 37, 66, 67, 68] [(2, 2), (4, 4), (5, 5)] [(30, 30), (48, 48), (2000400, 2000400), (24, 2000401), (2000402, 2000402), (2000403, 2000403)] ?_ hr
          exact lf
         ·have hr := ifN1 hr hc
          repeat refine gA ?_
          replace hr := goodC_out hr
          repeat refine gA ?_
          refine S.sees [2, 4, 5, 6, 35, 36, 37] [(2, 2), (4, 4), (5, 5)] [(2000400, 2000400), (2000401, 2000401), (2000402, 2000402), (2000403, 2000403), (30, 30)] ?_ hr
          exact lf
      ·rw [if_neg hs19] at hr
       by_cases hs12 : s1.1 = 2
       ·rw [if_pos hs12] at hr
        simp only [hs12]
        refine S.gx [17, 13] ?_
        obtain ⟨v13, hv13, hr⟩ := of_bind1 hr
        try simp only [hv13, oG, oI, true_and, and_assoc]
        repeat refine gA ?_
        repeat (first | refine gA ?_ | refine gB ?_)
        refine ⟨?_, ?_⟩ <;> intro hc
        ·have hr := ifP1 hr hc
         repeat refine gA ?_
         refine S.prune [2] ?_
         refine S.gx [17, 11] ?_
         repeat refine gA ?_
         have hr := of_out0 hr
         cases hr
         exact lf
        ·have hr := ifN1 hr hc
         repeat refine gA ?_
         obtain ⟨q4, hq, hr⟩ := of_iter1 hr
         refine S.sees [2, 4, 5, 6, 7, 35, 36, 37, 66, 67, 68] [(2, 2), (4, 4), (5, 5)] [(30, 30), (48, 48), (2000400, 2000400), (2000401, 2000401), (2000402, 2000402), (2000403, 2000403)] ?_ (Stop.iter S (fun s4 => ⟨[(2, .c (.ref 2 0)), (4, .c (.ref 4 0)), (5, .c (.ref 5 0)), (6, .c (.own 30)), (7, .c (.d (.int .i64 2))), (35, .c (.own 30)), (36, .c (.d (.int .i64 (v1.length : Int)))), (37, .c (.d (.int .i64 2))), (66, .c (.own 48)), (67, .c (.d (.int .i64 (v13.1.length : Int)))), (68, .c (.d (.int .i64 s4.1)))], [(2, [.nils, .nils, .nils, .nils, .d (.int .i64 0), .d (.int .i64 0), .d (.int .i64 0), .d (.int .i64 0)]), (4, [.own 2000400, .own 2000401, .own 2000402, .own 2000403, .d (.int .i64 s1.2.2.2.2.2.1), .d (.int .i64 s1.2.2.2.2.2.2.1), .d (.int .i64 s1.2.2.2.2.2.2.2.1), .d (.int .i64 s1.2.2.2.2.2.2.2.2)]), (5, [.d (.int .i64 4), .clo 27 [.ref 4 0], .d (.int .i64 5), .clo 28 [.ref 4 0], .d (.int .i64 3), .clo 29 [.ref 4 0], .d (.int .i64 2), .clo 30 [.ref 4 0], .d (.int .i64 4), .clo 31 [.ref 4 0]])], [(30, .owned (encF 1 d_S v1)), (48, .owned (encF 1 d_LIE v13.1)), (2000400, .owned (encF 4 d_IIII s1.2.1)), (2000401, .owned (encF 5 d_IIIII s1.2.2.1)), (2000402, .owned (encF 3 d_III s4.2)), (2000403, .owned (encF 2 d_II s1.2.2.2.2.1))]⟩) (b9_4 s1 v13) _ hq hr ?_)
         ·exact lf
         ·intro s4 hr
          unfold b9_4 at hr
          refine S.gx [17, 11, 13] ?_
          repeat refine gA ?_
          refine ⟨?_, ?_⟩ <;> intro hc
          ·have hr := ifP1 hr hc
           obtain ⟨hg18, hr⟩ := of_guard1 hr
           repeat refine gA ?_
           refine S.inl 5 [2, 4, 5, 6, 7, 35, 36, 37, 66, 67, 68] [.ref 4 0] Tryz.func29 (by decide) rfl Tryz.ntmps29 (fun cx e => drawn_ok ty_ok tb9_ok cx e) (some 77) rfl rfl rfl rfl (nL rfl) (nL rfl) ?_
           refine gs ?_
           repeat refine gA ?_
           intro stop1 S1
           refine S1.gx [] ?_
           obtain ⟨hg14, hr⟩ := of_guard1 hr
           obtain ⟨hg15, hr⟩ := of_guard1 hr
           obtain ⟨hg16, hr⟩ := of_guard1 hr
           obtain ⟨hg17, hr⟩ := of_guard1 hr
           repeat refine gA ?_
           refine S.gx [17, 11, 13] ?_
           repeat refine gA ?_
           refine S.sees [2, 4, 5, 6, 7, 35, 36, 37, 66, 67, 68] [(2, 2), (4, 4), (5, 5)] [(30, 30), (48, 48), (2000400, 2000400), (2000401, 2000401), (17, 2000402), (2000403, 2000403)] ?_ hr
           exact lf
          ·have hr := ifN1 hr hc
           repeat refine gA ?_
           replace hr := goodC_out hr
           repeat refine gA ?_
           refine S.sees [2, 4, 5, 6, 35, 36, 37] [(2, 2), (4, 4), (5, 5)] [(2000400, 2000400), (2000401, 2000401), (2000402, 2000402), (2000403, 2000403), (30, 30)] ?_ hr
           exact lf
       ·rw [if_neg hs12] at hr
        by_cases hs6 : s1.1 = 3
        ·rw [if_pos hs6] at hr
         simp only [hs6]
         refine S.gx [17, 13] ?_
         obtain ⟨v7, hv7, hr⟩ := of_bind1 hr
         try simp only [hv7, oG, oI, true_and, and_assoc]
         repeat refine gA ?_
         repeat (first | refine gA ?_ | refine gB ?_)
         refine ⟨?_, ?_⟩ <;> intro hc
         ·have hr := ifP1 hr hc
          repeat refine gA ?_
          refine S.prune [2] ?_
          refine S.gx [17, 11] ?_
          repeat refine gA ?_
          have hr := of_out0 hr
          cases hr
          exact lf
         ·have hr := ifN1 hr hc
          repeat refine gA ?_
          obtain ⟨q3, hq, hr⟩ := of_iter1 hr
          refine S.sees [2, 4, 5, 6, 7, 35, 36, 37, 66, 67, 68] [(2, 2), (4, 4), (5, 5)] [(30, 30), (48, 48), (2000400, 2000400), (2000401, 2000401), (2000402, 2000402), (2000403, 2000403)] ?_ (Stop.iter S (fun s3 => ⟨[(2, .c (.ref 2 0)), (4, .c (.ref 4 0)), (5, .c (.ref 5 0)), (6, .c (.own 30)), (7, .c (.d (.int .i64 3))), (35, .c (.own 30)), (36, .c (.d (.int .i64 (v1.length : Int)))), (37, .c (.d (.int .i64 3))), (66, .c (.own 48)), (67, .c (.d (.int .i64 (v7.1.length : Int)))), (68, .c (.d (.int .i64 s3.1)))], [(2, [.nils, .nils, .nils, .nils, .d (.int .i64 0), .d (.int .i64 0), .d (.int .i64 0), .d (.int .i64 0)]), (4, [.own 2000400, .own 2000401, .own 2000402, .own 2000403, .d (.int .i64 s1.2.2.2.2.2.1), .d (.int .i64 s1.2.2.2.2.2.2.1), .d (.int .i64 s1.2.2.2.2.2.2.2.1), .d (.int .i64 s1.2.2.2.2.2.2.2.2)]), (5, [.d (.int .i64 4), .clo 27 [.ref 4 0], .d (.int .i64 5), .clo 28 [.ref 4 0], .d (.int .i64 3), .clo 29 [.ref 4 0], .d (.int .i64 2), .clo 30 [.ref 4 0], .d (.int .i64 4), .clo 31 [.ref 4 0]])], [(30, .owned (encF 1 d_S v1)), (48, .owned (encF 1 d_LIE v7.1)), (2000400, .owned (encF 4 d_IIII s1.2.1)), (2000401, .owned (encF 5 d_IIIII s1.2.2.1)), (2000402, .owned (encF 3 d_III s1.2.2.2.1)), (2000403, .owned (encF 2 d_II s3.2))]⟩) (b9_3 s1 v7) _ hq hr ?_)
          ·exact lf
          ·intro s3 hr
           unfold b9_3 at hr
           refine S.gx [17, 11, 13] ?_
           repeat refine gA ?_
           refine ⟨?_, ?_⟩ <;> intro hc
           ·have hr := ifP1 hr hc
            obtain ⟨hg11, hr⟩ := of_guard1 hr
            repeat refine gA ?_
            refine S.inl 5 [2, 4, 5, 6, 7, 35, 36, 37, 66, 67, 68] [.ref 4 0] Tryz.func30 (by decide) rfl Tryz.ntmps30 (fun cx e => drawn_ok ty_ok tb9_ok cx e) (some 77) rfl rfl rfl rfl (nL rfl) (nL rfl) ?_
            refine gs ?_
            repeat refine gA ?_
            intro stop1 S1
            refine S1.gx [] ?_
            obtain ⟨hg8, hr⟩ := of_guard1 hr
            obtain ⟨hg9, hr⟩ := of_guard1 hr
            obtain ⟨hg10, hr⟩ := of_guard1 hr
            repeat refine gA ?_
            refine S.gx [17, 11, 13] ?_
            repeat refine gA ?_
            refine S.sees [2, 4, 5, 6, 7, 35, 36, 37, 66, 67, 68] [(2, 2), (4, 4), (5, 5)] [(30, 30), (48, 48), (2000400, 2000400), (2000401, 2000401), (2000402, 2000402), (13, 2000403)] ?_ hr
            exact lf
           ·have hr := ifN1 hr hc
            repeat refine gA ?_
            replace hr := goodC_out hr
            repeat refine gA ?_
            refine S.sees [2, 4, 5, 6, 35, 36, 37] [(2, 2), (4, 4), (5, 5)] [(2000400, 2000400), (2000401, 2000401), (2000402, 2000402), (2000403, 2000403), (30, 30)] ?_ hr
            exact lf
        ·rw [if_neg hs6] at hr
         by_cases hs2 : s1.1 = 4
         ·rw [if_pos hs2] at hr
          simp only [hs2]
          refine S.gx [17, 13] ?_
          obtain ⟨v3, hv3, hr⟩ := of_bind1 hr
          try simp only [hv3, oG, oI, true_and, and_assoc]
          repeat refine gA ?_
          repeat (first | refine gA ?_ | refine gB ?_)
          refine ⟨?_, ?_⟩ <;> intro hc
          ·have hr := ifP1 hr hc
           repeat refine gA ?_
           refine S.prune [2] ?_
           refine S.gx [17, 11] ?_
           repeat refine gA ?_
           have hr := of_out0 hr
           cases hr
           exact lf
          ·have hr := ifN1 hr hc
           repeat refine gA ?_
           obtain ⟨q2, hq, hr⟩ := of_iter1 hr
           refine S.sees [2, 4, 5, 6, 7, 35, 36, 37, 66, 67, 68] [(2, 2), (4, 4), (5, 5)] [(30, 30), (48, 48), (2000400, 2000400), (2000401, 2000401), (2000402, 2000402), (2000403, 2000403)] ?_ (Stop.iter S (fun s2 => ⟨[(2, .c (.ref 2 0)), (4, .c (.ref 4 0)), (5, .c (.ref 5 0)), (6, .c (.own 30)), (7, .c (.d (.int .i64 4))), (35, .c (.own 30)), (36, .c (.d (.int .i64 (v1.length : Int)))), (37, .c (.d (.int .i64 4))), (66, .c (.own 48)), (67, .c (.d (.int .i64 (v3.1.length : Int)))), (68, .c (.d (.int .i64 s2.1)))], [(2, [.nils, .nils, .nils, .nils, .d (.int .i64 0), .d (.int .i64 0), .d (.int .i64 0), .d (.int .i64 0)]), (4, [.own 2000400, .own 2000401, .own 2000402, .own 2000403, .d (.int .i64 s2.2.1), .d (.int .i64 s2.2.2.1), .d (.int .i64 s2.2.2.2.1), .d (.int .i64 s2.2.2.2.2)]), (5, [.d (.int .i64 4), .clo 27 [.ref 4 0], .d (.int .i64 5), .clo 28 [.ref 4 0], .d (.int .i64 3), .clo 29 [.ref 4 0], .d (.int .i64 2), .clo 30 [.ref 4 0], .d (.int .i64 4), .clo 31 [.ref 4 0]])], [(30, .owned (encF 1 d_S v1)), (48, .owned (encF 1 d_LIE v3.1)), (2000400, .owned (encF 4 d_IIII s1.2.1)), (2000401, .owned (encF 5 d_IIIII s1.2.2.1)), (2000402, .owned (encF 3 d_III s1.2.2.2.1)), (2000403, .owned (encF 2 d_II s1.2.2.2.2.1))]⟩) (b9_2 s1 v3) _ hq hr ?_)
           ·exact lf
           ·intro s2 hr
            unfold b9_2 at hr
            refine S.gx [17, 11, 13] ?_
            repeat refine gA ?_
            refine ⟨?_, ?_⟩ <;> intro hc
            ·have hr := ifP1 hr hc
             obtain ⟨hg5, hr⟩ := of_guard1 hr
             repeat refine gA ?_
             refine S.inl 5 [2, 4, 5, 6, 7, 35, 36, 37, 66, 67, 68] [.ref 4 0] Tryz.func31 (by decide) rfl Tryz.ntmps31 (fun cx e => drawn_ok ty_ok tb9_ok cx e) (some 77) rfl rfl rfl rfl (nL rfl) (nL rfl) ?_
             refine gs ?_
             repeat refine gA ?_
             intro stop1 S1
             refine S1.gx [] ?_
             obtain ⟨hg4, hr⟩ := of_guard1 hr
             repeat refine gA ?_
             refine S.gx [17, 11, 13] ?_
             repeat refine gA ?_
             refine S.sees [2, 4, 5, 6, 7, 35, 36, 37, 66, 67, 68] [(2, 2), (4, 4), (5, 5)] [(30, 30), (48, 48), (2000400, 2000400), (2000401, 2000401), (2000402, 2000402), (2000403, 2000403)] ?_ hr
             exact lf
            ·have hr := ifN1 hr hc
             repeat refine gA ?_
             replace hr := goodC_out hr
             repeat refine gA ?_
             refine S.sees [2, 4, 5, 6, 35, 36, 37] [(2, 2), (4, 4), (5, 5)] [(2000400, 2000400), (2000401, 2000401), (2000402, 2000402), (2000403, 2000403), (30, 30)] ?_ hr
             exact lf
         ·rw [if_neg hs2] at hr
          first | cases hr | exact hr.elim
    ·have hr := ifN1 hr hc
     repeat refine gA ?_
     have hr := of_out0 hr
     obtain ⟨v37, hv37, hr⟩ := of_bind0 hr
     try simp only [hv37, oG, oI, true_and, and_assoc]
     repeat refine gA ?_
     refine ⟨?_, ?_⟩ <;> intro hc
     ·have hr := ifP hr hc
      repeat refine gA ?_
      cases hr
      exact lf
     ·have hr := ifN hr hc
      repeat refine gA ?_
      cases hr
      exact lf
theorem f9 : FnFact Tryz.prog 9 T9.sp := ⟨⟨Tryz.f9, Tryz.func9, by decide, rfl⟩, v9⟩
end

/- martensite/steel.ParseState -/
def r10 (a0 : ByteArray) : Option (Int × Int × Int × Int × Int × Int × Int × Int) :=
  (r35 a0 7).bind fun v1 =>
   if (!v1.2) = true then
    some (0, 0, 0, 0, 0, 0, 0, 7)
    else if 0 ≤ 0 ∧ 0 < (v1.1.length : Int) then
     if 0 ≤ 1 ∧ 1 < (v1.1.length : Int) then
      if 0 ≤ 2 ∧ 2 < (v1.1.length : Int) then
       if 0 ≤ 3 ∧ 3 < (v1.1.length : Int) then
        if 0 ≤ 4 ∧ 4 < (v1.1.length : Int) then
         if 0 ≤ 5 ∧ 5 < (v1.1.length : Int) then
          if 0 ≤ 6 ∧ 6 < (v1.1.length : Int) then
           (r36 (v1.1.getD 0 default) (v1.1.getD 1 default) (v1.1.getD 2 default) (v1.1.getD 3 default) (v1.1.getD 4 default) (v1.1.getD 5 default) (v1.1.getD 6 default)).bind fun v2 =>
            if (v2 != 0) = true then
             some (0, 0, 0, 0, 0, 0, 0, v2)
             else some ((v1.1.getD 0 default), (v1.1.getD 1 default), (v1.1.getD 2 default), (v1.1.getD 3 default), (v1.1.getD 4 default), (v1.1.getD 5 default), (v1.1.getD 6 default), 0)
           else none
          else none
         else none
        else none
       else none
      else none
     else none
def T10 : TSpec qA31 := mkT qE31 qd31 r10 qu10 false
theorem TP10 (c0 : D) : T10.sp.pre [.c c0] = (eqvArgs (qt31 c0) (qp31 qw31 c0) ∧ (qp31 r10 c0).isSome = true) := (rfl)
theorem TR10 (c0 : D) : T10.sp.res [.c c0] = qu10 ((qp31 r10 c0).getD default) := (rfl)
theorem TA10 : T10.sp.alias = false := (rfl)
def tb10 : Fns := lk [(35, T35.sp), (36, T36.sp)]
theorem tb10_ok : FnsOk Tryz.prog tb10 := .cons f35 (.cons f36 (FnsOk.nil))
theorem tb10_35 : tb10 35 = some T35.sp := rfl
theorem tb10_36 : tb10 36 = some T36.sp := rfl
attribute [go_sem] TP10 TR10 TA10
section
attribute [local go_sem] T10 tb10_35 tb10_36 Tryz.results10
theorem v10 : Valid Tryz.prog 10 T10.sp := by
 refine valid_t (fn := Tryz.f10) (n := 45) ty_ok tb10_ok Tryz.func10 rfl Tryz.ntmps10 ?_
 rintro a0 hx
 obtain ⟨r, hr⟩ := oE (show (r10 a0).isSome = true from hx)
 have hres : T10.res a0 = qu10 r := by simp only [T10, mkT, hr, oG]
 refine ⟨nL rfl, fun stop S => ?_⟩
 rw [hres] at S
 unfold r10 at hr
 refine S.gx [5] ?_
 obtain ⟨v1, hv1, hr⟩ := of_bind0 hr
 try simp only [hv1, oG, oI, true_and, and_assoc]
 repeat refine gA ?_
 refine ⟨?_, ?_⟩ <;> intro hc
 ·have hr := ifP hr hc
  repeat refine gA ?_
  cases hr
  exact lf
 ·have hr := ifN hr hc
  obtain ⟨hg3, hr⟩ := of_guard0 hr
  obtain ⟨hg4, hr⟩ := of_guard0 hr
  obtain ⟨hg5, hr⟩ := of_guard0 hr
  obtain ⟨hg6, hr⟩ := of_guard0 hr
  obtain ⟨hg7, hr⟩ := of_guard0 hr
  obtain ⟨hg8, hr⟩ := of_guard0 hr
  obtain ⟨hg9, hr⟩ := of_guard0 hr
  repeat refine gA ?_
  refine S.prune [2, 6] ?_
  refine S.gx [] ?_
  obtain ⟨v2, hv2, hr⟩ := of_bind0 hr
  try simp only [hv2, oG, oI, true_and, and_assoc]
  repeat refine gA ?_
  refine ⟨?_, ?_⟩ <;> intro hc
  ·have hr := ifP hr hc
   repeat refine gA ?_
   cases hr
   exact lf
  ·have hr := ifN hr hc
   repeat refine gA ?_
   cases hr
   exact lf
theorem f10 : FnFact Tryz.prog 10 T10.sp := ⟨⟨Tryz.f10, Tryz.func10, by decide, rfl⟩, v10⟩
end

/- martensite/martensitebase.Cut -/
def b37_1 (a0 : ByteArray) (a1 : Int) : ((List (ByteArray)) × Int × Int) → Ctl ((List (ByteArray)) × Int × Int) ((List (ByteArray))) := fun s1 =>
  if (decide (s1.2.2 < (a0.size : Int))) = true then
   if 0 ≤ s1.2.2 ∧ s1.2.2 < (a0.size : Int) then
    if ((byteAt a0 s1.2.2.toNat) == a1) = true then
     if 0 ≤ s1.2.1 ∧ s1.2.1 ≤ s1.2.2 ∧ s1.2.2 ≤ (a0.size : Int) then
      if (s1.1.length + 1) * 16 ≤ 140737488355328 ∧ s1.1.length + 1 ≤ 9223372036854775807 then
       .next (s1.1 ++ [a0.extract s1.2.1.toNat s1.2.2.toNat], IntKind.i64.wrap (s1.2.2 + 1), IntKind.i64.wrap (s1.2.2 + 1))
       else .out none
      else .out none
     else .next (s1.1, s1.2.1, IntKind.i64.wrap (s1.2.2 + 1))
    else .out none
   else .out (if 0 ≤ s1.2.1 ∧ s1.2.1 ≤ (a0.size : Int) ∧ (a0.size : Int) ≤ (a0.size : Int) then
    if (s1.1.length + 1) * 16 ≤ 140737488355328 ∧ s1.1.length + 1 ≤ 9223372036854775807 then
     some (s1.1 ++ [a0.extract s1.2.1.toNat a0.size])
     else none
    else none)
def r37 (a0 : ByteArray) (a1 : Int) : Option ((List (ByteArray))) :=
  iterC (b37_1 a0 a1) 1000000000 ([], 0, 0)
def T37 : TSpec qA33 := mkT qE33 qd33 (fun ⟨a0, a1⟩ => r37 a0 a1) qu16 false
theorem TP37 (c0 c1 : D) : T37.sp.pre [.c c0, .c c1] = (eqvArgs (qt33 c0 c1) (qp33 qw33 c0 c1) ∧ (qp33 r37 c0 c1).isSome = true) := (rfl)
theorem TR37 (c0 c1 : D) : T37.sp.res [.c c0, .c c1] = qu16 ((qp33 r37 c0 c1).getD default) := (rfl)
theorem TA37 : T37.sp.alias = false := (rfl)
def tb37 : Fns := lk []
theorem tb37_ok : FnsOk Tryz.prog tb37 := FnsOk.nil
theorem lt37_0 : (IntKind.i64.wrap (0 + 1)) = 1 := by first | rfl | decide | simp
attribute [go_sem] TP37 TR37 TA37
section
attribute [local go_sem] T37 Tryz.results37 lt37_0
theorem v37 : Valid Tryz.prog 37 T37.sp := by
 refine valid_t (fn := Tryz.f37) (n := 34) ty_ok tb37_ok Tryz.func37 rfl Tryz.ntmps37 ?_
 rintro ⟨a0, a1⟩ hx
 obtain ⟨r, hr⟩ := oE (show (r37 a0 a1).isSome = true from hx)
 have hres : T37.res (a0, a1) = qu16 r := by simp only [T37, mkT, hr, oG]
 refine ⟨nL rfl, fun stop S => ?_⟩
 rw [hres] at S
 unfold r37 at hr
 refine S.gx [] ?_
 repeat refine gA ?_
 refine S.own0 5 1000500 1 rfl rfl ?_
 refine S.sees [0, 1, 5, 6, 7] [] [(1000500, 1000500)] ?_ (Stop.iter S (fun s1 => ⟨[(0, .c (.d (.str a0))), (1, .c (.d (.int .u8 a1))), (5, .c (.own 1000500)), (6, .c (.d (.int .i64 s1.2.1))), (7, .c (.d (.int .i64 s1.2.2)))], [], [(1000500, .owned (encF 1 d_S s1.1))]⟩) (b37_1 a0 a1) (fun q => q = r) hr rfl ?_)
 ·exact lf
 ·intro s1 hr
  unfold b37_1 at hr
  refine S.gx [] ?_
  repeat refine gA ?_
  refine ⟨?_, ?_⟩ <;> intro hc
  ·have hr := ifP1 hr hc
   obtain ⟨hg3, hr⟩ := of_guard1 hr
   repeat refine gA ?_
   refine ⟨?_, ?_⟩ <;> intro hc
   ·have hr := ifP1 hr hc
    obtain ⟨hg1, hr⟩ := of_guard1 hr
    obtain ⟨hg2, hr⟩ := of_guard1 hr
    repeat refine gA ?_
    refine S.sees [0, 1, 5, 6, 7] [] [(25, 1000500)] ?_ hr
    exact lf
   ·have hr := ifN1 hr hc
    repeat refine gA ?_
    refine S.sees [0, 1, 5, 6, 7] [] [(1000500, 1000500)] ?_ hr
    exact lf
  ·have hr := ifN1 hr hc
   repeat refine gA ?_
   have hr := of_out0 hr
   obtain ⟨hg4, hr⟩ := of_guard0 hr
   obtain ⟨hg5, hr⟩ := of_guard0 hr
   repeat refine gA ?_
   cases hr
   exact lf
theorem f37 : FnFact Tryz.prog 37 T37.sp := ⟨⟨Tryz.f37, Tryz.func37, by decide, rfl⟩, v37⟩
end

/- martensite/martensitebase.Number -/
def b69_1 (a0 : ByteArray) : (Int × Int) → Ctl (Int × Int) (Int × Bool) := fun s1 =>
  if (decide (s1.2 < (a0.size : Int))) = true then
   if 0 ≤ s1.2 ∧ s1.2 < (a0.size : Int) then
    if (!(decide ((byteAt a0 s1.2.toNat) < 48))) = true → 0 ≤ s1.2 ∧ s1.2 < (a0.size : Int) then
     if ((decide ((byteAt a0 s1.2.toNat) < 48)) || (decide ((byteAt a0 s1.2.toNat) > 57))) = true then
      .out (some (0, false))
      else if 0 ≤ s1.2 ∧ s1.2 < (a0.size : Int) then
       .next (IntKind.i64.wrap ((IntKind.i64.wrap (10 * s1.1)) + (IntKind.i64.wrap (IntKind.u8.wrap ((byteAt a0 s1.2.toNat) - 48)))), IntKind.i64.wrap (s1.2 + 1))
       else .out none
     else .out none
    else .out none
   else .out (some (IntKind.i64.wrap (0 - s1.1), true))
def b69_2 (a0 : ByteArray) : (Int × Int) → Ctl (Int × Int) (Int × Bool) := fun s2 =>
  if (decide (s2.2 < (a0.size : Int))) = true then
   if 0 ≤ s2.2 ∧ s2.2 < (a0.size : Int) then
    if (!(decide ((byteAt a0 s2.2.toNat) < 48))) = true → 0 ≤ s2.2 ∧ s2.2 < (a0.size : Int) then
     if ((decide ((byteAt a0 s2.2.toNat) < 48)) || (decide ((byteAt a0 s2.2.toNat) > 57))) = true then
      .out (some (0, false))
      else if 0 ≤ s2.2 ∧ s2.2 < (a0.size : Int) then
       .next (IntKind.i64.wrap ((IntKind.i64.wrap (10 * s2.1)) + (IntKind.i64.wrap (IntKind.u8.wrap ((byteAt a0 s2.2.toNat) - 48)))), IntKind.i64.wrap (s2.2 + 1))
       else .out none
     else .out none
    else .out none
   else .out (some (s2.1, true))
def r69 (a0 : ByteArray) (a1 : Int) : Option (Int × Bool) :=
  if (decide ((a0.size : Int) > 0)) = true → 0 ≤ 0 ∧ 0 < (a0.size : Int) then
   if ((decide ((a0.size : Int) > 0)) && ((byteAt a0 0) == 45)) = true then
    if (!(((a0.size : Int) == 1) || (decide ((IntKind.i64.wrap ((a0.size : Int) - 1)) > a1)))) = true → 0 ≤ 1 ∧ 1 < (a0.size : Int) then
     if ((((a0.size : Int) == 1) || (decide ((IntKind.i64.wrap ((a0.size : Int) - 1)) > a1))) || (((byteAt a0 1) == 48) && (decide ((a0.size : Int) > 1)))) = true then
      some (0, false)
      else iterC (b69_1 a0) 1000000000 (0, 1)
     else none
    else if (!(((a0.size : Int) == 0) || (decide ((IntKind.i64.wrap ((a0.size : Int) - 0)) > a1)))) = true → 0 ≤ 0 ∧ 0 < (a0.size : Int) then
     if ((((a0.size : Int) == 0) || (decide ((IntKind.i64.wrap ((a0.size : Int) - 0)) > a1))) || (((byteAt a0 0) == 48) && (decide ((a0.size : Int) > 1)))) = true then
      some (0, false)
      else iterC (b69_2 a0) 1000000000 (0, 0)
     else none
   else none
def T69 : TSpec qA32 := mkT qE32 qd32 (fun ⟨a0, a1⟩ => r69 a0 a1) qu21 false
theorem TP69 (c0 c1 : D) : T69.sp.pre [.c c0, .c c1] = (eqvArgs (qt32 c0 c1) (qp32 qw32 c0 c1) ∧ (qp32 r69 c0 c1).isSome = true) := (rfl)
theorem TR69 (c0 c1 : D) : T69.sp.res [.c c0, .c c1] = qu21 ((qp32 r69 c0 c1).getD default) := (rfl)
theorem TA69 : T69.sp.alias = false := (rfl)
def tb69 : Fns := lk []
theorem tb69_ok : FnsOk Tryz.prog tb69 := FnsOk.nil
theorem lt69_0 : (IntKind.i64.wrap (1 + 1)) = 2 := by first | rfl | decide | simp
theorem lt69_1 : ((((1 : Int)) == 1)) = true := by first | rfl | decide | simp
theorem lt69_2 : (IntKind.i64.wrap (0 + 1)) = 1 := by first | rfl | decide | simp
theorem lt69_3 : ((((0 : Int)) == 1)) = false := by first | rfl | decide | simp
attribute [go_sem] TP69 TR69 TA69
section
attribute [local go_sem] T69 Tryz.results69 lt69_0 lt69_1 lt69_2 lt69_3
theorem v69 : Valid Tryz.prog 69 T69.sp := by
 refine valid_t (fn := Tryz.f69) (n := 70) ty_ok tb69_ok Tryz.func69 rfl Tryz.ntmps69 ?_
 rintro ⟨a0, a1⟩ hx
 obtain ⟨r, hr⟩ := oE (show (r69 a0 a1).isSome = true from hx)
 have hres : T69.res (a0, a1) = qu21 r := by simp only [T69, mkT, hr, oG]
 refine ⟨nL rfl, fun stop S => ?_⟩
 rw [hres] at S
 unfold r69 at hr
 refine S.gx [5, 6] ?_
 obtain ⟨hg9, hr⟩ := of_guard0 hr
 repeat (first | refine gG hg9 ?_ | refine gA ?_ | refine gB ?_)
 refine ⟨?_, ?_⟩ <;> intro hc
 ·have hr := ifP hr hc
  obtain ⟨hg4, hr⟩ := of_guard0 hr
  repeat (first | refine gG hg4 ?_ | refine gA ?_ | refine gB ?_)
  refine ⟨?_, ?_⟩ <;> intro hc
  ·have hr := ifP hr hc
   repeat refine gA ?_
   refine S.prune [] ?_
   refine S.gx [6] ?_
   repeat refine gA ?_
   cases hr
   exact lf
  ·have hr := ifN hr hc
   repeat refine gA ?_
   refine S.prune [0, 6] ?_
   refine S.gx [5] ?_
   repeat refine gA ?_
   refine S.sees [0, 6, 7, 8] [] [] ?_ (Stop.iter S (fun s1 => ⟨[(0, .c (.d (.str a0))), (6, .c (.d (.int .i64 1))), (7, .c (.d (.int .i64 s1.1))), (8, .c (.d (.int .i64 s1.2)))], [], []⟩) (b69_1 a0) (fun q => q = r) hr rfl ?_)
   ·exact lf
   ·intro s1 hr
    unfold b69_1 at hr
    refine S.gx [5, 6] ?_
    repeat refine gA ?_
    refine ⟨?_, ?_⟩ <;> intro hc
    ·have hr := ifP1 hr hc
     obtain ⟨hg2, hr⟩ := of_guard1 hr
     obtain ⟨hg3, hr⟩ := of_guard1 hr
     repeat (first | refine gG hg3 ?_ | refine gA ?_ | refine gB ?_)
     refine ⟨?_, ?_⟩ <;> intro hc
     ·have hr := ifP1 hr hc
      repeat refine gA ?_
      have hr := of_out0 hr
      cases hr
      exact lf
     ·have hr := ifN1 hr hc
      obtain ⟨hg1, hr⟩ := of_guard1 hr
      repeat refine gA ?_
      refine S.sees [0, 6, 7, 8] [] [] ?_ hr
      exact lf
    ·have hr := ifN1 hr hc
     repeat refine gA ?_
     have hr := of_out0 hr
     repeat refine gA ?_
     cases hr
     exact lf
 ·have hr := ifN hr hc
  obtain ⟨hg8, hr⟩ := of_guard0 hr
  repeat (first | refine gG hg8 ?_ | refine gA ?_ | refine gB ?_)
  refine ⟨?_, ?_⟩ <;> intro hc
  ·have hr := ifP hr hc
   repeat refine gA ?_
   refine S.prune [] ?_
   refine S.gx [6] ?_
   repeat refine gA ?_
   cases hr
   exact lf
  ·have hr := ifN hr hc
   repeat refine gA ?_
   refine S.prune [0, 6] ?_
   refine S.gx [5] ?_
   repeat refine gA ?_
   refine S.sees [0, 6, 7, 8] [] [] ?_ (Stop.iter S (fun s2 => ⟨[(0, .c (.d (.str a0))), (6, .c (.d (.int .i64 0))), (7, .c (.d (.int .i64 s2.1))), (8, .c (.d (.int .i64 s2.2)))], [], []⟩) (b69_2 a0) (fun q => q = r) hr rfl ?_)
   ·exact lf
   ·intro s2 hr
    unfold b69_2 at hr
    refine S.gx [5, 6] ?_
    repeat refine gA ?_
    refine ⟨?_, ?_⟩ <;> intro hc
    ·have hr := ifP1 hr hc
     obtain ⟨hg6, hr⟩ := of_guard1 hr
     obtain ⟨hg7, hr⟩ := of_guard1 hr
     repeat (first | refine gG hg7 ?_ | refine gA ?_ | refine gB ?_)
     refine ⟨?_, ?_⟩ <;> intro hc
     ·have hr := ifP1 hr hc
      repeat refine gA ?_
      have hr := of_out0 hr
      cases hr
      exact lf
     ·have hr := ifN1 hr hc
      obtain ⟨hg5, hr⟩ := of_guard1 hr
      repeat refine gA ?_
      refine S.sees [0, 6, 7, 8] [] [] ?_ hr
      exact lf
    ·have hr := ifN1 hr hc
     repeat refine gA ?_
     have hr := of_out0 hr
     repeat refine gA ?_
     cases hr
     exact lf
theorem f69 : FnFact Tryz.prog 69 T69.sp := ⟨⟨Tryz.f69, Tryz.func69, by decide, rfl⟩, v69⟩
end

/- martensite/martensiteref04.parse -/
def b39_1 (a1 : Int) (v1 : (List (ByteArray))) : ((List (Int)) × Int) → Ctl ((List (Int)) × Int) ((List (Int)) × Bool) := fun s1 =>
  if (decide (s1.2 < a1)) = true then
   if 0 ≤ s1.2 ∧ s1.2 < (v1.length : Int) then
    bindC (r69 (v1.getD s1.2.toNat default) 7) fun v2 =>
     if (!(!v2.2)) = true → 0 ≤ s1.2 ∧ s1.2 < (v1.length : Int) then
      if (!(!v2.2)) = true → 0 ≤ 0 ∧ 0 < ((v1.getD s1.2.toNat default).size : Int) then
       if ((!v2.2) || ((byteAt (v1.getD s1.2.toNat default) 0) == 45)) = true then
        .out (some ([], false))
        else if (s1.1.length + 1) * 8 ≤ 140737488355328 ∧ s1.1.length + 1 ≤ 9223372036854775807 then
         .next (s1.1 ++ [v2.1], IntKind.i64.wrap (s1.2 + 1))
         else .out none
       else .out none
      else .out none
    else .out none
   else .out (some (s1.1, true))
def r39 (a0 : ByteArray) (a1 : Int) : Option ((List (Int)) × Bool) :=
  (r37 a0 32).bind fun v1 =>
   if ((v1.length : Int) != a1) = true then
    some ([], false)
    else iterC (b39_1 a1 v1) 1000000000 ([], 0)
def T39 : TSpec qA32 := mkT qE32 qd32 (fun ⟨a0, a1⟩ => r39 a0 a1) qu18 false
theorem TP39 (c0 c1 : D) : T39.sp.pre [.c c0, .c c1] = (eqvArgs (qt32 c0 c1) (qp32 qw32 c0 c1) ∧ (qp32 r39 c0 c1).isSome = true) := (rfl)
theorem TR39 (c0 c1 : D) : T39.sp.res [.c c0, .c c1] = qu18 ((qp32 r39 c0 c1).getD default) := (rfl)
theorem TA39 : T39.sp.alias = false := (rfl)
def tb39 : Fns := lk [(37, T37.sp), (69, T69.sp)]
theorem tb39_ok : FnsOk Tryz.prog tb39 := .cons f37 (.cons f69 (FnsOk.nil))
theorem tb39_37 : tb39 37 = some T37.sp := rfl
theorem tb39_69 : tb39 69 = some T69.sp := rfl
theorem lt39_0 : (IntKind.i64.wrap (0 + 1)) = 1 := by first | rfl | decide | simp
attribute [go_sem] TP39 TR39 TA39
section
attribute [local go_sem] T39 tb39_37 tb39_69 Tryz.results39 lt39_0
theorem v39 : Valid Tryz.prog 39 T39.sp := by
 refine valid_t (fn := Tryz.f39) (n := 45) ty_ok tb39_ok Tryz.func39 rfl Tryz.ntmps39 ?_
 rintro ⟨a0, a1⟩ hx
 obtain ⟨r, hr⟩ := oE (show (r39 a0 a1).isSome = true from hx)
 have hres : T39.res (a0, a1) = qu18 r := by simp only [T39, mkT, hr, oG]
 refine ⟨nL rfl, fun stop S => ?_⟩
 rw [hres] at S
 unfold r39 at hr
 refine S.gx [] ?_
 obtain ⟨v1, hv1, hr⟩ := of_bind0 hr
 try simp only [hv1, oG, oI, true_and, and_assoc]
 repeat refine gA ?_
 refine ⟨?_, ?_⟩ <;> intro hc
 ·have hr := ifP hr hc
  repeat refine gA ?_
  cases hr
  exact lf
 ·have hr := ifN hr hc
  repeat refine gA ?_
  refine S.own0 7 1000700 1 rfl rfl ?_
  refine S.sees [1, 6, 7, 8] [] [(1000700, 1000700), (12, 12)] ?_ (Stop.iter S (fun s1 => ⟨[(1, .c (.d (.int .i64 a1))), (6, .c (.own 12)), (7, .c (.own 1000700)), (8, .c (.d (.int .i64 s1.2)))], [], [(1000700, .owned (encF 1 d_I s1.1)), (12, .owned (encF 1 d_S v1))]⟩) (b39_1 a1 v1) (fun q => q = r) hr rfl ?_)
  ·exact lf
  ·intro s1 hr
   unfold b39_1 at hr
   refine S.gx [] ?_
   repeat refine gA ?_
   refine ⟨?_, ?_⟩ <;> intro hc
   ·have hr := ifP1 hr hc
    obtain ⟨hg4, hr⟩ := of_guard1 hr
    obtain ⟨v2, hv2, hr⟩ := of_bind1 hr
    obtain ⟨hg5, hr⟩ := of_guard1 hr
    obtain ⟨hg6, hr⟩ := of_guard1 hr
    try simp only [hv2, oG, oI, true_and, and_assoc]
    repeat (first | refine gG hg5 ?_ | refine gG hg6 ?_ | refine gA ?_ | refine gB ?_)
    refine ⟨?_, ?_⟩ <;> intro hc
    ·have hr := ifP1 hr hc
     repeat refine gA ?_
     have hr := of_out0 hr
     cases hr
     exact lf
    ·have hr := ifN1 hr hc
     obtain ⟨hg3, hr⟩ := of_guard1 hr
     repeat refine gA ?_
     refine S.sees [1, 6, 7, 8] [] [(43, 1000700), (12, 12)] ?_ hr
     exact lf
   ·have hr := ifN1 hr hc
    repeat refine gA ?_
    have hr := of_out0 hr
    repeat refine gA ?_
    cases hr
    exact lf
theorem f39 : FnFact Tryz.prog 39 T39.sp := ⟨⟨Tryz.f39, Tryz.func39, by decide, rfl⟩, v39⟩
end

/- martensite/martensiteref04.list -/
def b38_1 (a1 : Int) (v1 : (List (ByteArray))) : ((List ((List (Int)))) × Int) → Ctl ((List ((List (Int)))) × Int) ((List ((List (Int)))) × Bool) := fun s1 =>
  if (decide (s1.2 < (v1.length : Int))) = true then
   if 0 ≤ s1.2 ∧ s1.2 < (v1.length : Int) then
    bindC (r39 (v1.getD s1.2.toNat default) a1) fun v2 =>
     if (!v2.2) = true then
      .out (some ([], false))
      else if (s1.1.length + 1) * 24 ≤ 140737488355328 ∧ s1.1.length + 1 ≤ 9223372036854775807 then
       .next (s1.1 ++ [v2.1], IntKind.i64.wrap (s1.2 + 1))
       else .out none
    else .out none
   else .out (some (s1.1, true))
def r38 (a0 : ByteArray) (a1 : Int) : Option ((List ((List (Int)))) × Bool) :=
  if (decide (a0 = (⟨#[]⟩ : ByteArray))) = true then
   some ([], true)
   else (r37 a0 59).bind fun v1 =>
    iterC (b38_1 a1 v1) 1000000000 ([], 0)
def T38 : TSpec qA32 := mkT qE32 qd32 (fun ⟨a0, a1⟩ => r38 a0 a1) qu19 true
theorem TP38 (c0 c1 : D) : T38.sp.pre [.c c0, .c c1] = (eqvArgs (qt32 c0 c1) (qp32 qw32 c0 c1) ∧ (qp32 r38 c0 c1).isSome = true) := (rfl)
theorem TR38 (c0 c1 : D) : T38.sp.res [.c c0, .c c1] = qu19 ((qp32 r38 c0 c1).getD default) := (rfl)
theorem TA38 : T38.sp.alias = true := (rfl)
def tb38 : Fns := lk [(37, T37.sp), (39, T39.sp)]
theorem tb38_ok : FnsOk Tryz.prog tb38 := .cons f37 (.cons f39 (FnsOk.nil))
theorem tb38_37 : tb38 37 = some T37.sp := rfl
theorem tb38_39 : tb38 39 = some T39.sp := rfl
theorem lt38_0 : (IntKind.i64.wrap (0 + 1)) = 1 := by first | rfl | decide | simp
attribute [go_sem] TP38 TR38 TA38
section
attribute [local go_sem] T38 tb38_37 tb38_39 Tryz.results38 lt38_0
theorem v38 : Valid Tryz.prog 38 T38.sp := by
 refine valid_t (fn := Tryz.f38) (n := 37) ty_ok tb38_ok Tryz.func38 rfl Tryz.ntmps38 ?_
 rintro ⟨a0, a1⟩ hx
 obtain ⟨r, hr⟩ := oE (show (r38 a0 a1).isSome = true from hx)
 have hres : T38.res (a0, a1) = qu19 r := by simp only [T38, mkT, hr, oG]
 refine ⟨nL rfl, fun stop S => ?_⟩
 rw [hres] at S
 unfold r38 at hr
 refine S.gx [] ?_
 repeat refine gA ?_
 refine ⟨?_, ?_⟩ <;> intro hc
 ·have hr := ifP hr hc
  repeat refine gA ?_
  cases hr
  exact lf
 ·have hr := ifN hr hc
  obtain ⟨v1, hv1, hr⟩ := of_bind0 hr
  try simp only [hv1, oG, oI, true_and, and_assoc]
  repeat refine gA ?_
  refine S.own0 7 1000700 1 rfl rfl ?_
  refine S.sees [1, 6, 7, 8] [] [(1000700, 1000700), (14, 14)] ?_ (Stop.iter S (fun s1 => ⟨[(1, .c (.d (.int .i64 a1))), (6, .c (.own 14)), (7, .c (.own 1000700)), (8, .c (.d (.int .i64 s1.2)))], [], [(1000700, .owned (encF 1 d_LIE s1.1)), (14, .owned (encF 1 d_S v1))]⟩) (b38_1 a1 v1) (fun q => q = r) hr rfl ?_)
  ·exact lf
  ·intro s1 hr
   unfold b38_1 at hr
   refine S.gx [] ?_
   repeat refine gA ?_
   refine ⟨?_, ?_⟩ <;> intro hc
   ·have hr := ifP1 hr hc
    obtain ⟨hg4, hr⟩ := of_guard1 hr
    obtain ⟨v2, hv2, hr⟩ := of_bind1 hr
    try simp only [hv2, oG, oI, true_and, and_assoc]
    repeat refine gA ?_
    refine ⟨?_, ?_⟩ <;> intro hc
    ·have hr := ifP1 hr hc
     repeat refine gA ?_
     have hr := of_out0 hr
     cases hr
     exact lf
    ·have hr := ifN1 hr hc
     obtain ⟨hg3, hr⟩ := of_guard1 hr
     repeat refine gA ?_
     refine S.sees [1, 6, 7, 8] [] [(35, 1000700), (14, 14)] ?_ hr
     exact lf
   ·have hr := ifN1 hr hc
    repeat refine gA ?_
    have hr := of_out0 hr
    repeat refine gA ?_
    cases hr
    exact lf
theorem f38 : FnFact Tryz.prog 38 T38.sp := ⟨⟨Tryz.f38, Tryz.func38, by decide, rfl⟩, v38⟩
end

/- martensite/martensitebase.Within -/
def r43 (a0 : Int) (a1 : Int) (a2 : Int) : Option (Bool) :=
  some ((decide (a1 ≤ a0)) && (decide (a0 ≤ a2)))
def T43 : TSpec qA2 := mkT qE2 qd2 (fun ⟨a0, a1, a2⟩ => r43 a0 a1 a2) qu3 false
theorem TP43 (c0 c1 c2 : D) : T43.sp.pre [.c c0, .c c1, .c c2] = (eqvArgs (qt2 c0 c1 c2) (qp2 qw2 c0 c1 c2) ∧ (qp2 r43 c0 c1 c2).isSome = true) := (rfl)
theorem TR43 (c0 c1 c2 : D) : T43.sp.res [.c c0, .c c1, .c c2] = qu3 ((qp2 r43 c0 c1 c2).getD default) := (rfl)
theorem TA43 : T43.sp.alias = false := (rfl)
def tb43 : Fns := lk []
theorem tb43_ok : FnsOk Tryz.prog tb43 := FnsOk.nil
attribute [go_sem] TP43 TR43 TA43
section
attribute [local go_sem] T43 Tryz.results43
theorem v43 : Valid Tryz.prog 43 T43.sp := by
 refine valid_t (fn := Tryz.f43) (n := 15) ty_ok tb43_ok Tryz.func43 rfl Tryz.ntmps43 ?_
 rintro ⟨a0, a1, a2⟩ hx
 obtain ⟨r, hr⟩ := oE (show (r43 a0 a1 a2).isSome = true from hx)
 have hres : T43.res (a0, a1, a2) = qu3 r := by simp only [T43, mkT, hr, oG]
 refine ⟨nL rfl, fun stop S => ?_⟩
 rw [hres] at S
 unfold r43 at hr
 refine S.gx [] ?_
 repeat (first | refine gA ?_ | refine gB ?_)
 cases hr
 exact lf
theorem f43 : FnFact Tryz.prog 43 T43.sp := ⟨⟨Tryz.f43, Tryz.func43, by decide, rfl⟩, v43⟩
end

/- martensite/martensiteref04.IsKelvin -/
def r94 (a0 : Int) : Option (Bool) :=
  (r43 a0 1 3000).bind fun v1 =>
   some v1
def T94 : TSpec qA3 := mkT qE3 qd3 r94 qu3 false
theorem TP94 (c0 : D) : T94.sp.pre [.c c0] = (eqvArgs (qt3 c0) (qp3 qw3 c0) ∧ (qp3 r94 c0).isSome = true) := (rfl)
theorem TR94 (c0 : D) : T94.sp.res [.c c0] = qu3 ((qp3 r94 c0).getD default) := (rfl)
theorem TA94 : T94.sp.alias = false := (rfl)
def tb94 : Fns := lk [(43, T43.sp)]
theorem tb94_ok : FnsOk Tryz.prog tb94 := .cons f43 (FnsOk.nil)
theorem tb94_43 : tb94 43 = some T43.sp := rfl
attribute [go_sem] TP94 TR94 TA94
section
attribute [local go_sem] T94 tb94_43 Tryz.results94
theorem v94 : Valid Tryz.prog 94 T94.sp := by
 refine valid_t (fn := Tryz.f94) (n := 5) ty_ok tb94_ok Tryz.func94 rfl Tryz.ntmps94 ?_
 rintro a0 hx
 obtain ⟨r, hr⟩ := oE (show (r94 a0).isSome = true from hx)
 have hres : T94.res a0 = qu3 r := by simp only [T94, mkT, hr, oG]
 refine ⟨nL rfl, fun stop S => ?_⟩
 rw [hres] at S
 unfold r94 at hr
 refine S.gx [] ?_
 obtain ⟨v1, hv1, hr⟩ := of_bind0 hr
 try simp only [hv1, oG, oI, true_and, and_assoc]
 repeat refine gA ?_
 cases hr
 exact lf
theorem f94 : FnFact Tryz.prog 94 T94.sp := ⟨⟨Tryz.f94, Tryz.func94, by decide, rfl⟩, v94⟩
end

/- martensite/martensiteref04.part -/
def r95 (x1 : Int) (x0 : Int) : Option (Bool) :=
  (r43 x1 0 1000000).bind fun v1 =>
   if v1 = true → (r43 x0 0 1000000).isSome = true then
    some (v1 && ((r43 x0 0 1000000).getD default))
    else none
def T95 : TSpec qA4 := mkT qE4 qd4 (fun ⟨x1, x0⟩ => r95 x1 x0) qu3 false
theorem TP95 (c0 c1 : D) : T95.sp.pre [.agg [c0, c1]] = (eqvArgs (qt4 c0 c1) (qp4 qw4 c0 c1) ∧ (qp4 r95 c0 c1).isSome = true) := (rfl)
theorem TR95 (c0 c1 : D) : T95.sp.res [.agg [c0, c1]] = qu3 ((qp4 r95 c0 c1).getD default) := (rfl)
theorem TA95 : T95.sp.alias = false := (rfl)
def tb95 : Fns := lk [(43, T43.sp)]
theorem tb95_ok : FnsOk Tryz.prog tb95 := .cons f43 (FnsOk.nil)
theorem tb95_43 : tb95 43 = some T43.sp := rfl
attribute [go_sem] TP95 TR95 TA95
section
attribute [local go_sem] T95 tb95_43 Tryz.results95
theorem v95 : Valid Tryz.prog 95 T95.sp := by
 refine valid_t (fn := Tryz.f95) (n := 11) ty_ok tb95_ok Tryz.func95 rfl Tryz.ntmps95 ?_
 rintro ⟨x1, x0⟩ hx
 obtain ⟨r, hr⟩ := oE (show (r95 x1 x0).isSome = true from hx)
 have hres : T95.res (x1, x0) = qu3 r := by simp only [T95, mkT, hr, oG]
 refine ⟨nL rfl, fun stop S => ?_⟩
 rw [hres] at S
 unfold r95 at hr
 refine S.gx [] ?_
 obtain ⟨v1, hv1, hr⟩ := of_bind0 hr
 obtain ⟨hg2, hr⟩ := of_guard0 hr
 try simp only [hv1, oG, oI, true_and, and_assoc]
 repeat (first | refine gG hg2 ?_ | refine gA ?_ | refine gB ?_)
 cases hr
 exact lf
theorem f95 : FnFact Tryz.prog 95 T95.sp := ⟨⟨Tryz.f95, Tryz.func95, by decide, rfl⟩, v95⟩
end

/- martensite/martensiteref04.knot -/
def b71_2 (a0 : Int) (a1 : Int) (a2 : List (Int × Int)) (a4 : Bool) : (Int) → Ctl (Int) (Int) := fun s2 =>
  if (decide (s2 < (a2.length : Int))) = true then
   if 0 ≤ s2 ∧ s2 < (a2.length : Int) then
    if 0 ≤ s2 ∧ s2 < (a2.length : Int) then
     if (decide (((a2.getD s2.toNat default).1) > ((a2.getD s2.toNat default).2))) = true then
      .out (some 3)
      else .next (IntKind.i64.wrap (s2 + 1))
     else .out none
    else .out none
   else .out (if ((decide (a0 ≤ a1)) || (!a4)) = true then
    some 9
    else some 0)
def b71_1 (a0 : Int) (a1 : Int) (a2 : List (Int × Int)) (a4 : Bool) : (Bool × Int) → Ctl (Bool × Int) (Int) := fun s1 =>
  if (decide (s1.2 < (a2.length : Int))) = true then
   if s1.1 = true → 0 ≤ s1.2 ∧ s1.2 < (a2.length : Int) then
    if s1.1 = true → (r95 ((a2.getD s1.2.toNat default).1) ((a2.getD s1.2.toNat default).2)).isSome = true then
     .next (s1.1 && ((r95 ((a2.getD s1.2.toNat default).1) ((a2.getD s1.2.toNat default).2)).getD default), IntKind.i64.wrap (s1.2 + 1))
     else .out none
    else .out none
   else .out (if (!s1.1) = true then
    some 2
    else iterC (b71_2 a0 a1 a2 a4) 1000000000 0)
def r71 (a0 : Int) (a1 : Int) (a2 : List (Int × Int)) (a3 : Int) (a4 : Bool) : Option (Int) :=
  (r94 a0).bind fun v1 =>
   if v1 = true → (r43 a3 0 1000000).isSome = true then
    iterC (b71_1 a0 a1 a2 a4) 1000000000 (v1 && ((r43 a3 0 1000000).getD default), 0)
    else none
def T71 : TSpec qA34 := mkT qE34 qd34 (fun ⟨a0, a1, a2, a3, a4⟩ => r71 a0 a1 a2 a3 a4) qu4 false
theorem TP71 (c0 c1 c2 c3 c4 : D) : T71.sp.pre [.c c0, .c c1, .c c2, .c c3, .c c4] = (eqvArgs (qt34 c0 c1 c2 c3 c4) (qp34 qw34 c0 c1 c2 c3 c4) ∧ (qp34 r71 c0 c1 c2 c3 c4).isSome = true) := (rfl)
theorem TR71 (c0 c1 c2 c3 c4 : D) : T71.sp.res [.c c0, .c c1, .c c2, .c c3, .c c4] = qu4 ((qp34 r71 c0 c1 c2 c3 c4).getD default) := (rfl)
theorem TA71 : T71.sp.alias = false := (rfl)
def tb71 : Fns := lk [(43, T43.sp), (94, T94.sp), (95, T95.sp)]
theorem tb71_ok : FnsOk Tryz.prog tb71 := .cons f43 (.cons f94 (.cons f95 (FnsOk.nil)))
theorem tb71_43 : tb71 43 = some T43.sp := rfl
theorem tb71_94 : tb71 94 = some T94.sp := rfl
theorem tb71_95 : tb71 95 = some T95.sp := rfl
theorem lt71_0 : (IntKind.i64.wrap (0 + 1)) = 1 := by first | rfl | decide | simp
attribute [go_sem] TP71 TR71 TA71
section
attribute [local go_sem] T71 tb71_43 tb71_94 tb71_95 Tryz.results71 lt71_0
theorem v71 : Valid Tryz.prog 71 T71.sp := by
 refine valid_t (fn := Tryz.f71) (n := 60) ty_ok tb71_ok Tryz.func71 rfl Tryz.ntmps71 ?_
 rintro ⟨a0, a1, a2, a3, a4⟩ hx
 obtain ⟨r, hr⟩ := oE (show (r71 a0 a1 a2 a3 a4).isSome = true from hx)
 have hres : T71.res (a0, a1, a2, a3, a4) = qu4 r := by simp only [T71, mkT, hr, oG]
 refine ⟨nL rfl, fun stop S => ?_⟩
 rw [hres] at S
 unfold r71 at hr
 refine S.gx [] ?_
 obtain ⟨v1, hv1, hr⟩ := of_bind0 hr
 obtain ⟨hg6, hr⟩ := of_guard0 hr
 try simp only [hv1, oG, oI, true_and, and_assoc]
 repeat (first | refine gG hg6 ?_ | refine gA ?_ | refine gB ?_)
 refine S.sees [0, 1, 2, 4, 11, 12] [] [] ?_ (Stop.iter S (fun s1 => ⟨[(0, .c (.d (.int .i64 a0))), (1, .c (.d (.int .i64 a1))), (2, .c (.d (encF 2 d_II a2))), (4, .c (.d (.bool a4))), (11, .c (.d (.bool s1.1))), (12, .c (.d (.int .i64 s1.2)))], [], []⟩) (b71_1 a0 a1 a2 a4) (fun q => q = r) hr rfl ?_)
 ·exact lf
 ·intro s1 hr
  unfold b71_1 at hr
  refine S.gx [] ?_
  repeat refine gA ?_
  refine ⟨?_, ?_⟩ <;> intro hc
  ·have hr := ifP1 hr hc
   obtain ⟨hg2, hr⟩ := of_guard1 hr
   obtain ⟨hg3, hr⟩ := of_guard1 hr
   repeat (first | refine gG hg2 ?_ | refine gG hg3 ?_ | refine gA ?_ | refine gB ?_)
   refine S.sees [0, 1, 2, 4, 11, 12] [] [] ?_ hr
   exact lf
  ·have hr := ifN1 hr hc
   repeat refine gA ?_
   have hr := of_out0 hr
   repeat refine gA ?_
   refine ⟨?_, ?_⟩ <;> intro hc
   ·have hr := ifP hr hc
    repeat refine gA ?_
    cases hr
    exact lf
   ·have hr := ifN hr hc
    repeat refine gA ?_
    refine S.sees [0, 1, 2, 4, 13] [] [] ?_ (Stop.iter S (fun s2 => ⟨[(0, .c (.d (.int .i64 a0))), (1, .c (.d (.int .i64 a1))), (2, .c (.d (encF 2 d_II a2))), (4, .c (.d (.bool a4))), (13, .c (.d (.int .i64 s2)))], [], []⟩) (b71_2 a0 a1 a2 a4) (fun q => q = r) hr rfl ?_)
    ·exact lf
    ·intro s2 hr
     unfold b71_2 at hr
     refine S.gx [] ?_
     repeat refine gA ?_
     refine ⟨?_, ?_⟩ <;> intro hc
     ·have hr := ifP1 hr hc
      obtain ⟨hg4, hr⟩ := of_guard1 hr
      obtain ⟨hg5, hr⟩ := of_guard1 hr
      repeat refine gA ?_
      refine ⟨?_, ?_⟩ <;> intro hc
      ·have hr := ifP1 hr hc
       repeat refine gA ?_
       have hr := of_out0 hr
       cases hr
       exact lf
      ·have hr := ifN1 hr hc
       repeat refine gA ?_
       refine S.sees [0, 1, 2, 4, 13] [] [] ?_ hr
       exact lf
     ·have hr := ifN1 hr hc
      repeat refine gA ?_
      have hr := of_out0 hr
      repeat (first | refine gA ?_ | refine gB ?_)
      refine ⟨?_, ?_⟩ <;> intro hc
      ·have hr := ifP hr hc
       repeat refine gA ?_
       cases hr
       exact lf
      ·have hr := ifN hr hc
       repeat refine gA ?_
       cases hr
       exact lf
theorem f71 : FnFact Tryz.prog 71 T71.sp := ⟨⟨Tryz.f71, Tryz.func71, by decide, rfl⟩, v71⟩
end

/- martensite/martensiteref04.CheckRules -/
def b42_4 (x0 : List (Int × Int × Int × Int)) (x2 : List (Int × Int)) (x6 : Int) (x4 : Int) (x5 : Int) (x7 : Int) (s2 : Int × Int) (s3 : Int × Int) : (Int × Int) → Ctl (Int × Int) (Int × Int) := fun s4 =>
  if (decide (s4.2 < (x2.length : Int))) = true then
   if 0 ≤ s4.2 ∧ s4.2 < (x2.length : Int) then
    if 0 ≤ s4.2 ∧ s4.2 < (x2.length : Int) then
     bindC (r71 ((x2.getD s4.2.toNat default).1) s4.1 [] ((x2.getD s4.2.toNat default).2) true) fun v14 =>
      if (v14 != 0) = true then
       .out (some (s4.2, v14))
       else if 0 ≤ s4.2 ∧ s4.2 < (x2.length : Int) then
        .next ((x2.getD s4.2.toNat default).1, IntKind.i64.wrap (s4.2 + 1))
        else .out none
     else .out none
    else .out none
   else .out (if (decide ((x0.length : Int) > 0)) = true → 0 ≤ 0 ∧ 0 < (x0.length : Int) then
    if ((decide ((x0.length : Int) > 0)) && (decide ((if (if s2.1 < s3.1 then s3.1 else s2.1) < s4.1 then s4.1 else (if s2.1 < s3.1 then s3.1 else s2.1)) ≥ ((x0.getD 0 default).1)))) = true then
     some (0, 13)
     else (r43 x6 0 2000).bind fun v18 =>
      if (!v18) = true then
       some (0, 2)
       else (r43 x4 0 2000).bind fun v19 =>
        if (!v19) = true then
         some (0, 2)
         else (r43 x5 0 2000).bind fun v20 =>
          if (!v20) = true then
           some (0, 2)
           else (r43 x7 0 2000).bind fun v21 =>
            if (!v21) = true then
             some (0, 2)
             else if (decide (x4 < x6)) = true then
              some (0, 9)
              else if (decide (x5 < x4)) = true then
               some (0, 9)
               else if (decide (x7 < x5)) = true then
                some (0, 9)
                else some (0, 0)
    else none)
def b42_3 (x0 : List (Int × Int × Int × Int)) (x1 : List (Int × Int × Int)) (x2 : List (Int × Int)) (x6 : Int) (x4 : Int) (x5 : Int) (x7 : Int) (s2 : Int × Int) : (Int × Int) → Ctl (Int × Int) (Int × Int) := fun s3 =>
  if (decide (s3.2 < (x1.length : Int))) = true then
   if 0 ≤ s3.2 ∧ s3.2 < (x1.length : Int) then
    if (!(s3.2 == 0)) = true → 0 ≤ IntKind.i64.wrap (s3.2 - 1) ∧ IntKind.i64.wrap (s3.2 - 1) < (x1.length : Int) then
     if ((!(s3.2 == 0)) && (decide (((x1.getD s3.2.toNat default).2.1) ≤ ((x1.getD (IntKind.i64.wrap (s3.2 - 1)).toNat default).2.1)))) = true → 0 ≤ IntKind.i64.wrap (s3.2 - 1) ∧ IntKind.i64.wrap (s3.2 - 1) < (x1.length : Int) then
      bindC (r71 ((x1.getD s3.2.toNat default).1) s3.1 [((x1.getD s3.2.toNat default).2.1, (x1.getD s3.2.toNat default).2.2)] 0 ((s3.2 == 0) || ((decide (((x1.getD s3.2.toNat default).2.1) ≤ ((x1.getD (IntKind.i64.wrap (s3.2 - 1)).toNat default).2.1))) && (decide (((x1.getD s3.2.toNat default).2.2) ≤ ((x1.getD (IntKind.i64.wrap (s3.2 - 1)).toNat default).2.2)))))) fun v10 =>
       if (v10 != 0) = true then
        .out (some (s3.2, v10))
        else .next ((x1.getD s3.2.toNat default).1, IntKind.i64.wrap (s3.2 + 1))
      else .out none
     else .out none
    else .out none
   else .out (iterC (b42_4 x0 x2 x6 x4 x5 x7 s2 s3) 1000000000 ((-1), 0))
def b42_2 (x0 : List (Int × Int × Int × Int)) (x3 : List (Int × Int × Int × Int × Int)) (x1 : List (Int × Int × Int)) (x2 : List (Int × Int)) (x6 : Int) (x4 : Int) (x5 : Int) (x7 : Int) : (Int × Int) → Ctl (Int × Int) (Int × Int) := fun s2 =>
  if (decide (s2.2 < (x3.length : Int))) = true then
   if 0 ≤ s2.2 ∧ s2.2 < (x3.length : Int) then
    if 0 ≤ s2.2 ∧ s2.2 < (x3.length : Int) then
     if 0 ≤ s2.2 ∧ s2.2 < (x3.length : Int) then
      bindC (r71 ((x3.getD s2.2.toNat default).1) s2.1 [((x3.getD s2.2.toNat default).2.1, (x3.getD s2.2.toNat default).2.2.1), ((x3.getD s2.2.toNat default).2.2.2.1, (x3.getD s2.2.toNat default).2.2.2.2)] 0 true) fun v5 =>
       if (v5 != 0) = true then
        .out (some (s2.2, v5))
        else if 0 ≤ s2.2 ∧ s2.2 < (x3.length : Int) then
         .next ((x3.getD s2.2.toNat default).1, IntKind.i64.wrap (s2.2 + 1))
         else .out none
      else .out none
     else .out none
    else .out none
   else .out (iterC (b42_3 x0 x1 x2 x6 x4 x5 x7 s2) 1000000000 ((-1), 0))
def b42_1 (x0 : List (Int × Int × Int × Int)) (x3 : List (Int × Int × Int × Int × Int)) (x1 : List (Int × Int × Int)) (x2 : List (Int × Int)) (x6 : Int) (x4 : Int) (x5 : Int) (x7 : Int) : (Int × Int) → Ctl (Int × Int) (Int × Int) := fun s1 =>
  if (decide (s1.2 < (x0.length : Int))) = true then
   if 0 ≤ s1.2 ∧ s1.2 < (x0.length : Int) then
    if (!(s1.2 == 0)) = true → 0 ≤ IntKind.i64.wrap (s1.2 - 1) ∧ IntKind.i64.wrap (s1.2 - 1) < (x0.length : Int) then
     if ((!(s1.2 == 0)) && (decide (((x0.getD s1.2.toNat default).2.1) ≥ ((x0.getD (IntKind.i64.wrap (s1.2 - 1)).toNat default).2.1)))) = true → 0 ≤ IntKind.i64.wrap (s1.2 - 1) ∧ IntKind.i64.wrap (s1.2 - 1) < (x0.length : Int) then
      bindC (r71 ((x0.getD s1.2.toNat default).1) s1.1 [((x0.getD s1.2.toNat default).2.1, (x0.getD s1.2.toNat default).2.2.1)] ((x0.getD s1.2.toNat default).2.2.2) ((s1.2 == 0) || ((decide (((x0.getD s1.2.toNat default).2.1) ≥ ((x0.getD (IntKind.i64.wrap (s1.2 - 1)).toNat default).2.1))) && (decide (((x0.getD s1.2.toNat default).2.2.1) ≥ ((x0.getD (IntKind.i64.wrap (s1.2 - 1)).toNat default).2.2.1)))))) fun v1 =>
       if (v1 != 0) = true then
        .out (some (s1.2, v1))
        else .next ((x0.getD s1.2.toNat default).1, IntKind.i64.wrap (s1.2 + 1))
      else .out none
     else .out none
    else .out none
   else .out (iterC (b42_2 x0 x3 x1 x2 x6 x4 x5 x7) 1000000000 ((-1), 0))
def r42 (x0 : List (Int × Int × Int × Int)) (x3 : List (Int × Int × Int × Int × Int)) (x1 : List (Int × Int × Int)) (x2 : List (Int × Int)) (x6 : Int) (x4 : Int) (x5 : Int) (x7 : Int) : Option (Int × Int) :=
  if ((((decide ((x0.length : Int) > 8)) || (decide ((x3.length : Int) > 8))) || (decide ((x1.length : Int) > 8))) || (decide ((x2.length : Int) > 8))) = true then
   some (0, 8)
   else iterC (b42_1 x0 x3 x1 x2 x6 x4 x5 x7) 1000000000 ((-1), 0)
def T42 : TSpec qA1 := mkT qE1 qd1 (fun ⟨x0, x3, x1, x2, x6, x4, x5, x7⟩ => r42 x0 x3 x1 x2 x6 x4 x5 x7) qu5 false
theorem TP42 (c0 c1 c2 c3 c4 c5 c6 c7 : D) : T42.sp.pre [.agg [c0, c1, c2, c3, c4, c5, c6, c7]] = (eqvArgs (qt1 c0 c1 c2 c3 c4 c5 c6 c7) (qp1 qw1 c0 c1 c2 c3 c4 c5 c6 c7) ∧ (qp1 r42 c0 c1 c2 c3 c4 c5 c6 c7).isSome = true) := (rfl)
theorem TR42 (c0 c1 c2 c3 c4 c5 c6 c7 : D) : T42.sp.res [.agg [c0, c1, c2, c3, c4, c5, c6, c7]] = qu5 ((qp1 r42 c0 c1 c2 c3 c4 c5 c6 c7).getD default) := (rfl)
theorem TA42 : T42.sp.alias = false := (rfl)
def tb42 : Fns := lk [(43, T43.sp), (71, T71.sp)]
theorem tb42_ok : FnsOk Tryz.prog tb42 := .cons f43 (.cons f71 (FnsOk.nil))
theorem tb42_43 : tb42 43 = some T43.sp := rfl
theorem tb42_71 : tb42 71 = some T71.sp := rfl
theorem lt42_0 : ((((0 : Int)) == 0)) = true := by first | rfl | decide | simp
theorem lt42_1 : (IntKind.i64.wrap (0 + 1)) = 1 := by first | rfl | decide | simp
theorem lt42_2 : (decide ((0 : Int) < 4)) = true := by first | rfl | decide | simp
theorem lt42_3 : (decide ((1 : Int) < 4)) = true := by first | rfl | decide | simp
theorem lt42_4 : (IntKind.i64.wrap (1 + 1)) = 2 := by first | rfl | decide | simp
theorem lt42_5 : (decide ((2 : Int) < 4)) = true := by first | rfl | decide | simp
theorem lt42_6 : (IntKind.i64.wrap (2 + 1)) = 3 := by first | rfl | decide | simp
theorem lt42_7 : (decide ((3 : Int) < 4)) = true := by first | rfl | decide | simp
theorem lt42_8 : (IntKind.i64.wrap (3 + 1)) = 4 := by first | rfl | decide | simp
theorem lt42_9 : (decide ((4 : Int) < 4)) = false := by first | rfl | decide | simp
theorem lt42_10 : (IntKind.i64.wrap (1 - 1)) = 0 := by first | rfl | decide | simp
theorem lt42_11 : (IntKind.i64.wrap (2 - 1)) = 1 := by first | rfl | decide | simp
theorem lt42_12 : (IntKind.i64.wrap (3 - 1)) = 2 := by first | rfl | decide | simp
attribute [go_sem] TP42 TR42 TA42
section
attribute [local go_sem] T42 tb42_43 tb42_71 Tryz.results42 lt42_0 lt42_1 lt42_2 lt42_3 lt42_4 lt42_5 lt42_6 lt42_7 lt42_8 lt42_9 lt42_10 lt42_11 lt42_12
theorem v42 : Valid Tryz.prog 42 T42.sp := by
 refine valid_t (fn := Tryz.f42) (n := 269) ty_ok tb42_ok Tryz.func42 rfl Tryz.ntmps42 ?_
 rintro ⟨x0, x3, x1, x2, x6, x4, x5, x7⟩ hx
 obtain ⟨r, hr⟩ := oE (show (r42 x0 x3 x1 x2 x6 x4 x5 x7).isSome = true from hx)
 have hres : T42.res (x0, x3, x1, x2, x6, x4, x5, x7) = qu5 r := by simp only [T42, mkT, hr, oG]
 refine ⟨nL rfl, fun stop S => ?_⟩
 rw [hres] at S
 unfold r42 at hr
 refine S.gx [9, 19, 20, 28, 46, 48] ?_
 repeat (first | refine gA ?_ | refine gB ?_)
 refine ⟨?_, ?_⟩ <;> intro hc
 ·have hr := ifP hr hc
  repeat refine gA ?_
  cases hr
  exact lf
 ·have hr := ifN hr hc
  repeat refine gA ?_
  refine S.sees [1, 4, 5] [(1, 1)] [] ?_ (Stop.iter S (fun s1 => ⟨[(1, .c (.ref 1 0)), (4, .c (.d (.int .i64 s1.1))), (5, .c (.d (.int .i64 s1.2)))], [(1, [.d (encF 4 d_IIII x0), .d (encF 5 d_IIIII x3), .d (encF 3 d_III x1), .d (encF 2 d_II x2), .d (.int .i64 x6), .d (.int .i64 x4), .d (.int .i64 x5), .d (.int .i64 x7)])], []⟩) (b42_1 x0 x3 x1 x2 x6 x4 x5 x7) (fun q => q = r) hr rfl ?_)
  ·exact lf
  ·intro s1 hr
   unfold b42_1 at hr
   refine S.gx [9, 19, 20, 28, 46, 48] ?_
   repeat refine gA ?_
   refine ⟨?_, ?_⟩ <;> intro hc
   ·have hr := ifP1 hr hc
    obtain ⟨hg2, hr⟩ := of_guard1 hr
    obtain ⟨hg3, hr⟩ := of_guard1 hr
    obtain ⟨hg4, hr⟩ := of_guard1 hr
    repeat (first | refine gG hg3 ?_ | refine gG hg4 ?_ | refine gA ?_ | refine gB ?_)
    refine S.prune [1, 4, 5, 6, 7] ?_
    refine S.gx [19, 20, 28, 46, 48] ?_
    obtain ⟨v1, hv1, hr⟩ := of_bind1 hr
    try simp only [hv1, oG, oI, true_and, and_assoc]
    repeat refine gA ?_
    refine ⟨?_, ?_⟩ <;> intro hc
    ·have hr := ifP1 hr hc
     repeat refine gA ?_
     have hr := of_out0 hr
     cases hr
     exact lf
    ·have hr := ifN1 hr hc
     repeat refine gA ?_
     refine S.sees [1, 4, 5] [(1, 1)] [] ?_ hr
     exact lf
   ·have hr := ifN1 hr hc
    repeat refine gA ?_
    have hr := of_out0 hr
    repeat refine gA ?_
    refine S.sees [1, 4, 9] [(1, 1)] [] ?_ (Stop.iter S (fun s2 => ⟨[(1, .c (.ref 1 0)), (4, .c (.d (.int .i64 s2.1))), (9, .c (.d (.int .i64 s2.2)))], [(1, [.d (encF 4 d_IIII x0), .d (encF 5 d_IIIII x3), .d (encF 3 d_III x1), .d (encF 2 d_II x2), .d (.int .i64 x6), .d (.int .i64 x4), .d (.int .i64 x5), .d (.int .i64 x7)])], []⟩) (b42_2 x0 x3 x1 x2 x6 x4 x5 x7) (fun q => q = r) hr rfl ?_)
    ·exact lf
    ·intro s2 hr
     unfold b42_2 at hr
     refine S.gx [9, 19, 20, 28, 46, 48] ?_
     repeat refine gA ?_
     refine ⟨?_, ?_⟩ <;> intro hc
     ·have hr := ifP1 hr hc
      obtain ⟨hg7, hr⟩ := of_guard1 hr
      obtain ⟨hg8, hr⟩ := of_guard1 hr
      obtain ⟨hg9, hr⟩ := of_guard1 hr
      obtain ⟨v5, hv5, hr⟩ := of_bind1 hr
      try simp only [hv5, oG, oI, true_and, and_assoc]
      repeat refine gA ?_
      refine ⟨?_, ?_⟩ <;> intro hc
      ·have hr := ifP1 hr hc
       repeat refine gA ?_
       refine S.prune [9, 10] ?_
       refine S.gx [9, 20, 28, 46, 48] ?_
       repeat refine gA ?_
       have hr := of_out0 hr
       cases hr
       exact lf
      ·have hr := ifN1 hr hc
       repeat refine gA ?_
       refine S.prune [1, 9] ?_
       refine S.gx [9, 19, 28, 46, 48] ?_
       obtain ⟨hg6, hr⟩ := of_guard1 hr
       repeat refine gA ?_
       refine S.sees [1, 4, 9] [(1, 1)] [] ?_ hr
       exact lf
     ·have hr := ifN1 hr hc
      repeat refine gA ?_
      have hr := of_out0 hr
      repeat refine gA ?_
      refine S.sees [1, 4, 11, 12] [(1, 1)] [] ?_ (Stop.iter S (fun s3 => ⟨[(1, .c (.ref 1 0)), (4, .c (.d (.int .i64 s3.1))), (11, .c (.d (.int .i64 s2.1))), (12, .c (.d (.int .i64 s3.2)))], [(1, [.d (encF 4 d_IIII x0), .d (encF 5 d_IIIII x3), .d (encF 3 d_III x1), .d (encF 2 d_II x2), .d (.int .i64 x6), .d (.int .i64 x4), .d (.int .i64 x5), .d (.int .i64 x7)])], []⟩) (b42_3 x0 x1 x2 x6 x4 x5 x7 s2) (fun q => q = r) hr rfl ?_)
      ·exact lf
      ·intro s3 hr
       unfold b42_3 at hr
       refine S.gx [9, 19, 20, 28, 46, 48] ?_
       repeat refine gA ?_
       refine ⟨?_, ?_⟩ <;> intro hc
       ·have hr := ifP1 hr hc
        obtain ⟨hg11, hr⟩ := of_guard1 hr
        obtain ⟨hg12, hr⟩ := of_guard1 hr
        obtain ⟨hg13, hr⟩ := of_guard1 hr
        repeat (first | refine gG hg12 ?_ | refine gG hg13 ?_ | refine gA ?_ | refine gB ?_)
        refine S.prune [1, 4, 11, 12, 13, 14] ?_
        refine S.gx [9, 19, 20, 46, 48] ?_
        obtain ⟨v10, hv10, hr⟩ := of_bind1 hr
        try simp only [hv10, oG, oI, true_and, and_assoc]
        repeat refine gA ?_
        refine ⟨?_, ?_⟩ <;> intro hc
        ·have hr := ifP1 hr hc
         repeat refine gA ?_
         have hr := of_out0 hr
         cases hr
         exact lf
        ·have hr := ifN1 hr hc
         repeat refine gA ?_
         refine S.sees [1, 4, 11, 12] [(1, 1)] [] ?_ hr
         exact lf
       ·have hr := ifN1 hr hc
        repeat refine gA ?_
        have hr := of_out0 hr
        repeat refine gA ?_
        refine S.sees [1, 4, 11, 16] [(1, 1)] [] ?_ (Stop.iter S (fun s4 => ⟨[(1, .c (.ref 1 0)), (4, .c (.d (.int .i64 s4.1))), (11, .c (.d (.int .i64 (if s2.1 < s3.1 then s3.1 else s2.1)))), (16, .c (.d (.int .i64 s4.2)))], [(1, [.d (encF 4 d_IIII x0), .d (encF 5 d_IIIII x3), .d (encF 3 d_III x1), .d (encF 2 d_II x2), .d (.int .i64 x6), .d (.int .i64 x4), .d (.int .i64 x5), .d (.int .i64 x7)])], []⟩) (b42_4 x0 x2 x6 x4 x5 x7 s2 s3) (fun q => q = r) hr rfl ?_)
        ·exact lf
        ·intro s4 hr
         unfold b42_4 at hr
         refine S.gx [9, 19, 20, 28, 46, 48] ?_
         repeat refine gA ?_
         refine ⟨?_, ?_⟩ <;> intro hc
         ·have hr := ifP1 hr hc
          obtain ⟨hg16, hr⟩ := of_guard1 hr
          obtain ⟨hg17, hr⟩ := of_guard1 hr
          obtain ⟨v14, hv14, hr⟩ := of_bind1 hr
          try simp only [hv14, oG, oI, true_and, and_assoc]
          repeat refine gA ?_
          refine ⟨?_, ?_⟩ <;> intro hc
          ·have hr := ifP1 hr hc
           repeat refine gA ?_
           have hr := of_out0 hr
           cases hr
           exact lf
          ·have hr := ifN1 hr hc
           obtain ⟨hg15, hr⟩ := of_guard1 hr
           repeat refine gA ?_
           refine S.sees [1, 4, 11, 16] [(1, 1)] [] ?_ hr
           exact lf
         ·have hr := ifN1 hr hc
          repeat refine gA ?_
          have hr := of_out0 hr
          obtain ⟨hg22, hr⟩ := of_guard0 hr
          repeat (first | refine gG hg22 ?_ | refine gA ?_ | refine gB ?_)
          refine ⟨?_, ?_⟩ <;> intro hc
          ·have hr := ifP hr hc
           repeat refine gA ?_
           cases hr
           exact lf
          ·have hr := ifN hr hc
           repeat refine gA ?_
           refine S.lp ?_
           refine S.gx [9, 19, 20, 28, 46, 48] ?_
           obtain ⟨v18, hv18, hr⟩ := of_bind0 hr
           try simp only [hv18, oG, oI, true_and, and_assoc]
           repeat refine gA ?_
           refine ⟨?_, ?_⟩ <;> intro hc
           ·have hr := ifP hr hc
            repeat refine gA ?_
            refine S.prune [] ?_
            refine S.gx [9, 19, 20, 28, 46] ?_
            repeat refine gA ?_
            cases hr
            exact lf
           ·have hr := ifN hr hc
            repeat refine gA ?_
            refine S.prune [1, 18] ?_
            refine S.gx [9, 19, 20, 28, 48] ?_
            repeat refine gA ?_
            refine S.lp ?_
            refine S.gx [9, 19, 20, 28, 46, 48] ?_
            obtain ⟨v19, hv19, hr⟩ := of_bind0 hr
            try simp only [hv19, oG, oI, true_and, and_assoc]
            repeat refine gA ?_
            refine ⟨?_, ?_⟩ <;> intro hc
            ·have hr := ifP hr hc
             repeat refine gA ?_
             refine S.prune [] ?_
             refine S.gx [9, 19, 20, 28, 46] ?_
             repeat refine gA ?_
             cases hr
             exact lf
            ·have hr := ifN hr hc
             repeat refine gA ?_
             refine S.prune [1, 18] ?_
             refine S.gx [9, 19, 20, 28, 48] ?_
             repeat refine gA ?_
             refine S.lp ?_
             refine S.gx [9, 19, 20, 28, 46, 48] ?_
             obtain ⟨v20, hv20, hr⟩ := of_bind0 hr
             try simp only [hv20, oG, oI, true_and, and_assoc]
             repeat refine gA ?_
             refine ⟨?_, ?_⟩ <;> intro hc
             ·have hr := ifP hr hc
              repeat refine gA ?_
              refine S.prune [] ?_
              refine S.gx [9, 19, 20, 28, 46] ?_
              repeat refine gA ?_
              cases hr
              exact lf
             ·have hr := ifN hr hc
              repeat refine gA ?_
              refine S.prune [1, 18] ?_
              refine S.gx [9, 19, 20, 28, 48] ?_
              repeat refine gA ?_
              refine S.lp ?_
              refine S.gx [9, 19, 20, 28, 46, 48] ?_
              obtain ⟨v21, hv21, hr⟩ := of_bind0 hr
              try simp only [hv21, oG, oI, true_and, and_assoc]
              repeat refine gA ?_
              refine ⟨?_, ?_⟩ <;> intro hc
              ·have hr := ifP hr hc
               repeat refine gA ?_
               refine S.prune [] ?_
               refine S.gx [9, 19, 20, 28, 46] ?_
               repeat refine gA ?_
               cases hr
               exact lf
              ·have hr := ifN hr hc
               repeat refine gA ?_
               refine S.prune [1, 18] ?_
               refine S.gx [9, 19, 20, 28, 48] ?_
               repeat refine gA ?_
               refine S.lp ?_
               refine S.gx [9, 19, 20, 28, 46, 48] ?_
               repeat refine gA ?_
               refine S.lp ?_
               refine S.gx [9, 19, 20, 28, 46, 48] ?_
               repeat refine gA ?_
               refine ⟨?_, ?_⟩ <;> intro hc
               ·have hr := ifP hr hc
                repeat refine gA ?_
                cases hr
                exact lf
               ·have hr := ifN hr hc
                repeat refine gA ?_
                refine S.lp ?_
                refine S.gx [9, 19, 20, 28, 46, 48] ?_
                repeat refine gA ?_
                refine ⟨?_, ?_⟩ <;> intro hc
                ·have hr := ifP hr hc
                 repeat refine gA ?_
                 cases hr
                 exact lf
                ·have hr := ifN hr hc
                 repeat refine gA ?_
                 refine S.lp ?_
                 refine S.gx [9, 19, 20, 28, 46, 48] ?_
                 repeat refine gA ?_
                 refine ⟨?_, ?_⟩ <;> intro hc
                 ·have hr := ifP hr hc
                  repeat refine gA ?_
                  cases hr
                  exact lf
                 ·have hr := ifN hr hc
                  repeat refine gA ?_
                  refine S.lp ?_
                  refine S.gx [9, 19, 20, 28, 46, 48] ?_
                  repeat refine gA ?_
                  cases hr
                  exact lf
theorem f42 : FnFact Tryz.prog 42 T42.sp := ⟨⟨Tryz.f42, Tryz.func42, by decide, rfl⟩, v42⟩
end

/- martensite/martensiteref04.RulesErr -/
def r16 (x0 : List (Int × Int × Int × Int)) (x1 : List (Int × Int × Int × Int × Int)) (x2 : List (Int × Int × Int)) (x3 : List (Int × Int)) (x4 : Int) (x5 : Int) (x6 : Int) (x7 : Int) : Option (Int) :=
  (r42 x0 x1 x2 x3 x4 x5 x6 x7).bind fun v1 =>
   some v1.2
def T16 : TSpec qA1 := mkT qE1 qd1 (fun ⟨x0, x1, x2, x3, x4, x5, x6, x7⟩ => r16 x0 x1 x2 x3 x4 x5 x6 x7) qu4 false
theorem TP16 (c0 c1 c2 c3 c4 c5 c6 c7 : D) : T16.sp.pre [.agg [c0, c1, c2, c3, c4, c5, c6, c7]] = (eqvArgs (qt1 c0 c1 c2 c3 c4 c5 c6 c7) (qp1 qw1 c0 c1 c2 c3 c4 c5 c6 c7) ∧ (qp1 r16 c0 c1 c2 c3 c4 c5 c6 c7).isSome = true) := (rfl)
theorem TR16 (c0 c1 c2 c3 c4 c5 c6 c7 : D) : T16.sp.res [.agg [c0, c1, c2, c3, c4, c5, c6, c7]] = qu4 ((qp1 r16 c0 c1 c2 c3 c4 c5 c6 c7).getD default) := (rfl)
theorem TA16 : T16.sp.alias = false := (rfl)
def tb16 : Fns := lk [(42, T42.sp)]
theorem tb16_ok : FnsOk Tryz.prog tb16 := .cons f42 (FnsOk.nil)
theorem tb16_42 : tb16 42 = some T42.sp := rfl
attribute [go_sem] TP16 TR16 TA16
section
attribute [local go_sem] T16 tb16_42 Tryz.results16
theorem v16 : Valid Tryz.prog 16 T16.sp := by
 refine valid_t (fn := Tryz.f16) (n := 11) ty_ok tb16_ok Tryz.func16 rfl Tryz.ntmps16 ?_
 rintro ⟨x0, x1, x2, x3, x4, x5, x6, x7⟩ hx
 obtain ⟨r, hr⟩ := oE (show (r16 x0 x1 x2 x3 x4 x5 x6 x7).isSome = true from hx)
 have hres : T16.res (x0, x1, x2, x3, x4, x5, x6, x7) = qu4 r := by simp only [T16, mkT, hr, oG]
 refine ⟨nL rfl, fun stop S => ?_⟩
 rw [hres] at S
 unfold r16 at hr
 refine S.gx [] ?_
 obtain ⟨v1, hv1, hr⟩ := of_bind0 hr
 try simp only [hv1, oG, oI, true_and, and_assoc]
 repeat refine gA ?_
 cases hr
 exact lf
theorem f16 : FnFact Tryz.prog 16 T16.sp := ⟨⟨Tryz.f16, Tryz.func16, by decide, rfl⟩, v16⟩
end

/- martensite/martensiteref04.ParseRules -/
def b11_4 (v5 : (List ((List (Int)))) × Bool) (v6 : (List (Int)) × Bool) (s1 : Int × (List (Int × Int × Int × Int))) (s2 : Int × (List (Int × Int × Int × Int × Int))) (s3 : Int × (List (Int × Int × Int))) : (Int × (List (Int × Int))) → Ctl (Int × (List (Int × Int))) ((List (Int × Int × Int × Int)) × (List (Int × Int × Int × Int × Int)) × (List (Int × Int × Int)) × (List (Int × Int)) × Int × Int × Int × Int × Int) := fun s4 =>
  if (decide (s4.1 < (v5.1.length : Int))) = true then
   if 0 ≤ s4.1 ∧ s4.1 < (v5.1.length : Int) then
    if 0 ≤ 0 ∧ 0 < ((v5.1.getD s4.1.toNat default).length : Int) then
     if 0 ≤ s4.1 ∧ s4.1 < (v5.1.length : Int) then
      if 0 ≤ 1 ∧ 1 < ((v5.1.getD s4.1.toNat default).length : Int) then
       if (s4.2.length + 1) * 16 ≤ 140737488355328 ∧ s4.2.length + 1 ≤ 9223372036854775807 then
        .next (IntKind.i64.wrap (s4.1 + 1), s4.2 ++ [(((v5.1.getD s4.1.toNat default).getD 0 default), ((v5.1.getD s4.1.toNat default).getD 1 default))])
        else .out none
       else .out none
      else .out none
     else .out none
    else .out none
   else .out ((r16 s1.2 s2.2 s3.2 s4.2 (v6.1.getD 0 default) (v6.1.getD 1 default) (v6.1.getD 2 default) (v6.1.getD 3 default)).bind fun v39 =>
    if (v39 != 0) = true then
     some ([], [], [], [], 0, 0, 0, 0, v39)
     else some (s1.2, s2.2, s3.2, s4.2, (v6.1.getD 0 default), (v6.1.getD 1 default), (v6.1.getD 2 default), (v6.1.getD 3 default), 0))
def b11_3 (v4 : (List ((List (Int)))) × Bool) (v5 : (List ((List (Int)))) × Bool) (v6 : (List (Int)) × Bool) (s1 : Int × (List (Int × Int × Int × Int))) (s2 : Int × (List (Int × Int × Int × Int × Int))) : (Int × (List (Int × Int × Int))) → Ctl (Int × (List (Int × Int × Int))) ((List (Int × Int × Int × Int)) × (List (Int × Int × Int × Int × Int)) × (List (Int × Int × Int)) × (List (Int × Int)) × Int × Int × Int × Int × Int) := fun s3 =>
  if (decide (s3.1 < (v4.1.length : Int))) = true then
   if 0 ≤ s3.1 ∧ s3.1 < (v4.1.length : Int) then
    if 0 ≤ 0 ∧ 0 < ((v4.1.getD s3.1.toNat default).length : Int) then
     if 0 ≤ s3.1 ∧ s3.1 < (v4.1.length : Int) then
      if 0 ≤ 1 ∧ 1 < ((v4.1.getD s3.1.toNat default).length : Int) then
       if 0 ≤ s3.1 ∧ s3.1 < (v4.1.length : Int) then
        if 0 ≤ 2 ∧ 2 < ((v4.1.getD s3.1.toNat default).length : Int) then
         if (s3.2.length + 1) * 24 ≤ 140737488355328 ∧ s3.2.length + 1 ≤ 9223372036854775807 then
          .next (IntKind.i64.wrap (s3.1 + 1), s3.2 ++ [(((v4.1.getD s3.1.toNat default).getD 0 default), ((v4.1.getD s3.1.toNat default).getD 1 default), ((v4.1.getD s3.1.toNat default).getD 2 default))])
          else .out none
         else .out none
        else .out none
       else .out none
      else .out none
     else .out none
    else .out none
   else .out (iterC (b11_4 v5 v6 s1 s2 s3) 1000000000 (0, []))
def b11_2 (v3 : (List ((List (Int)))) × Bool) (v4 : (List ((List (Int)))) × Bool) (v5 : (List ((List (Int)))) × Bool) (v6 : (List (Int)) × Bool) (s1 : Int × (List (Int × Int × Int × Int))) : (Int × (List (Int × Int × Int × Int × Int))) → Ctl (Int × (List (Int × Int × Int × Int × Int))) ((List (Int × Int × Int × Int)) × (List (Int × Int × Int × Int × Int)) × (List (Int × Int × Int)) × (List (Int × Int)) × Int × Int × Int × Int × Int) := fun s2 =>
  if (decide (s2.1 < (v3.1.length : Int))) = true then
   if 0 ≤ s2.1 ∧ s2.1 < (v3.1.length : Int) then
    if 0 ≤ 0 ∧ 0 < ((v3.1.getD s2.1.toNat default).length : Int) then
     if 0 ≤ s2.1 ∧ s2.1 < (v3.1.length : Int) then
      if 0 ≤ 1 ∧ 1 < ((v3.1.getD s2.1.toNat default).length : Int) then
       if 0 ≤ s2.1 ∧ s2.1 < (v3.1.length : Int) then
        if 0 ≤ 2 ∧ 2 < ((v3.1.getD s2.1.toNat default).length : Int) then
         if 0 ≤ s2.1 ∧ s2.1 < (v3.1.length : Int) then
          if 0 ≤ 3 ∧ 3 < ((v3.1.getD s2.1.toNat default).length : Int) then
           if 0 ≤ s2.1 ∧ s2.1 < (v3.1.length : Int) then
            if 0 ≤ 4 ∧ 4 < ((v3.1.getD s2.1.toNat default).length : Int) then
             if (s2.2.length + 1) * 40 ≤ 140737488355328 ∧ s2.2.length + 1 ≤ 9223372036854775807 then
              .next (IntKind.i64.wrap (s2.1 + 1), s2.2 ++ [(((v3.1.getD s2.1.toNat default).getD 0 default), ((v3.1.getD s2.1.toNat default).getD 1 default), ((v3.1.getD s2.1.toNat default).getD 2 default), ((v3.1.getD s2.1.toNat default).getD 3 default), ((v3.1.getD s2.1.toNat default).getD 4 default))])
              else .out none
             else .out none
            else .out none
           else .out none
          else .out none
         else .out none
        else .out none
       else .out none
      else .out none
     else .out none
    else .out none
   else .out (iterC (b11_3 v4 v5 v6 s1 s2) 1000000000 (0, []))
def b11_1 (v2 : (List ((List (Int)))) × Bool) (v3 : (List ((List (Int)))) × Bool) (v4 : (List ((List (Int)))) × Bool) (v5 : (List ((List (Int)))) × Bool) (v6 : (List (Int)) × Bool) : (Int × (List (Int × Int × Int × Int))) → Ctl (Int × (List (Int × Int × Int × Int))) ((List (Int × Int × Int × Int)) × (List (Int × Int × Int × Int × Int)) × (List (Int × Int × Int)) × (List (Int × Int)) × Int × Int × Int × Int × Int) := fun s1 =>
  if (decide (s1.1 < (v2.1.length : Int))) = true then
   if 0 ≤ s1.1 ∧ s1.1 < (v2.1.length : Int) then
    if 0 ≤ 0 ∧ 0 < ((v2.1.getD s1.1.toNat default).length : Int) then
     if 0 ≤ s1.1 ∧ s1.1 < (v2.1.length : Int) then
      if 0 ≤ 1 ∧ 1 < ((v2.1.getD s1.1.toNat default).length : Int) then
       if 0 ≤ s1.1 ∧ s1.1 < (v2.1.length : Int) then
        if 0 ≤ 2 ∧ 2 < ((v2.1.getD s1.1.toNat default).length : Int) then
         if 0 ≤ s1.1 ∧ s1.1 < (v2.1.length : Int) then
          if 0 ≤ 3 ∧ 3 < ((v2.1.getD s1.1.toNat default).length : Int) then
           if (s1.2.length + 1) * 32 ≤ 140737488355328 ∧ s1.2.length + 1 ≤ 9223372036854775807 then
            .next (IntKind.i64.wrap (s1.1 + 1), s1.2 ++ [(((v2.1.getD s1.1.toNat default).getD 0 default), ((v2.1.getD s1.1.toNat default).getD 1 default), ((v2.1.getD s1.1.toNat default).getD 2 default), ((v2.1.getD s1.1.toNat default).getD 3 default))])
            else .out none
           else .out none
          else .out none
         else .out none
        else .out none
       else .out none
      else .out none
     else .out none
    else .out none
   else .out (iterC (b11_2 v3 v4 v5 v6 s1) 1000000000 (0, []))
def r11 (a0 : ByteArray) : Option ((List (Int × Int × Int × Int)) × (List (Int × Int × Int × Int × Int)) × (List (Int × Int × Int)) × (List (Int × Int)) × Int × Int × Int × Int × Int) :=
  if (decide ((a0.size : Int) > 60000)) = true then
   some ([], [], [], [], 0, 0, 0, 0, 8)
   else (r37 a0 47).bind fun v1 =>
    if ((v1.length : Int) != 5) = true then
     some ([], [], [], [], 0, 0, 0, 0, 7)
     else if 0 ≤ 0 ∧ 0 < (v1.length : Int) then
      (r38 (v1.getD 0 default) 4).bind fun v2 =>
       if 0 ≤ 1 ∧ 1 < (v1.length : Int) then
        (r38 (v1.getD 1 default) 5).bind fun v3 =>
         if 0 ≤ 2 ∧ 2 < (v1.length : Int) then
          (r38 (v1.getD 2 default) 3).bind fun v4 =>
           if 0 ≤ 3 ∧ 3 < (v1.length : Int) then
            (r38 (v1.getD 3 default) 2).bind fun v5 =>
             if 0 ≤ 4 ∧ 4 < (v1.length : Int) then
              (r39 (v1.getD 4 default) 4).bind fun v6 =>
               if (((((!v2.2) || (!v3.2)) || (!v4.2)) || (!v5.2)) || (!v6.2)) = true then
                some ([], [], [], [], 0, 0, 0, 0, 7)
                else if 0 ≤ 0 ∧ 0 < (v6.1.length : Int) then
                 if 0 ≤ 1 ∧ 1 < (v6.1.length : Int) then
                  if 0 ≤ 2 ∧ 2 < (v6.1.length : Int) then
                   if 0 ≤ 3 ∧ 3 < (v6.1.length : Int) then
                    iterC (b11_1 v2 v3 v4 v5 v6) 1000000000 (0, [])
                    else none
                   else none
                  else none
                 else none
              else none
            else none
          else none
        else none
      else none
def T11 : TSpec qA31 := mkT qE31 qd31 r11 qu20 false
theorem TP11 (c0 : D) : T11.sp.pre [.c c0] = (eqvArgs (qt31 c0) (qp31 qw31 c0) ∧ (qp31 r11 c0).isSome = true) := (rfl)
theorem TR11 (c0 : D) : T11.sp.res [.c c0] = qu20 ((qp31 r11 c0).getD default) := (rfl)
theorem TA11 : T11.sp.alias = false := (rfl)
def tb11 : Fns := lk [(16, T16.sp), (37, T37.sp), (38, T38.sp), (39, T39.sp)]
theorem tb11_ok : FnsOk Tryz.prog tb11 := .cons f16 (.cons f37 (.cons f38 (.cons f39 (FnsOk.nil))))
theorem tb11_16 : tb11 16 = some T16.sp := rfl
theorem tb11_37 : tb11 37 = some T37.sp := rfl
theorem tb11_38 : tb11 38 = some T38.sp := rfl
theorem tb11_39 : tb11 39 = some T39.sp := rfl
theorem lt11_0 : (IntKind.i64.wrap (0 + 1)) = 1 := by first | rfl | decide | simp
attribute [go_sem] TP11 TR11 TA11
section
attribute [local go_sem] T11 tb11_16 tb11_37 tb11_38 tb11_39 Tryz.results11 lt11_0
theorem v11 : Valid Tryz.prog 11 T11.sp := by
 refine valid_t (fn := Tryz.f11) (n := 242) ty_ok tb11_ok Tryz.func11 rfl Tryz.ntmps11 ?_
 rintro a0 hx
 obtain ⟨r, hr⟩ := oE (show (r11 a0).isSome = true from hx)
 have hres : T11.res a0 = qu20 r := by simp only [T11, mkT, hr, oG]
 refine ⟨nL rfl, fun stop S => ?_⟩
 rw [hres] at S
 unfold r11 at hr
 refine S.gx [9, 12, 13, 16, 20] ?_
 repeat refine gA ?_
 refine ⟨?_, ?_⟩ <;> intro hc
 ·have hr := ifP hr hc
  repeat refine gA ?_
  cases hr
  exact lf
 ·have hr := ifN hr hc
  obtain ⟨v1, hv1, hr⟩ := of_bind0 hr
  try simp only [hv1, oG, oI, true_and, and_assoc]
  repeat refine gA ?_
  refine ⟨?_, ?_⟩ <;> intro hc
  ·have hr := ifP hr hc
   repeat refine gA ?_
   cases hr
   exact lf
  ·have hr := ifN hr hc
   obtain ⟨hg46, hr⟩ := of_guard0 hr
   obtain ⟨v2, hv2, hr⟩ := of_bind0 hr
   obtain ⟨hg47, hr⟩ := of_guard0 hr
   obtain ⟨v3, hv3, hr⟩ := of_bind0 hr
   obtain ⟨hg48, hr⟩ := of_guard0 hr
   obtain ⟨v4, hv4, hr⟩ := of_bind0 hr
   try simp only [hv2, hv3, hv4, Option.getD_some, Option.isSome_some, true_and, and_assoc]
   repeat refine gA ?_
   refine S.prune [2, 4, 5, 6, 7, 8, 9, 10] ?_
   refine S.gx [12, 13, 16, 20] ?_
   obtain ⟨hg45, hr⟩ := of_guard0 hr
   obtain ⟨v5, hv5, hr⟩ := of_bind0 hr
   try simp only [hv5, oG, oI, true_and, and_assoc]
   repeat refine gA ?_
   obtain ⟨hg44, hr⟩ := of_guard0 hr
   obtain ⟨v6, hv6, hr⟩ := of_bind0 hr
   try simp only [hv6, oG, oI, true_and, and_assoc]
   repeat (first | refine gA ?_ | refine gB ?_)
   refine ⟨?_, ?_⟩ <;> intro hc
   ·have hr := ifP hr hc
    repeat refine gA ?_
    refine S.prune [2] ?_
    refine S.gx [9, 13, 16, 20] ?_
    repeat refine gA ?_
    cases hr
    exact lf
   ·have hr := ifN hr hc
    repeat refine gA ?_
    refine S.prune [2, 5, 7, 9, 11, 13] ?_
    refine S.gx [9, 12, 16, 20] ?_
    obtain ⟨hg40, hr⟩ := of_guard0 hr
    obtain ⟨hg41, hr⟩ := of_guard0 hr
    obtain ⟨hg42, hr⟩ := of_guard0 hr
    obtain ⟨hg43, hr⟩ := of_guard0 hr
    repeat refine gA ?_
    refine S.own0b 15 0 2001500 4 rfl rfl (nL rfl) rfl ?_
    refine S.sees [2, 5, 7, 9, 11, 15, 16] [(2, 2), (15, 15)] [(2001500, 2001500), (35, 35), (42, 42), (49, 49), (56, 56)] ?_ (Stop.iter S (fun s1 => ⟨[(2, .c (.ref 2 0)), (5, .c (.own 35)), (7, .c (.own 42)), (9, .c (.own 49)), (11, .c (.own 56)), (15, .c (.ref 15 0)), (16, .c (.d (.int .i64 s1.1)))], [(2, [.nils, .nils, .nils, .nils, .d (.int .i64 0), .d (.int .i64 0), .d (.int .i64 0), .d (.int .i64 0)]), (15, [.own 2001500, .nils, .nils, .nils, .d (.int .i64 (v6.1.getD 0 default)), .d (.int .i64 (v6.1.getD 1 default)), .d (.int .i64 (v6.1.getD 2 default)), .d (.int .i64 (v6.1.getD 3 default))])], [(2001500, .owned (encF 4 d_IIII s1.2)), (35, .owned (encF 1 d_LIE v2.1)), (42, .owned (encF 1 d_LIE v3.1)), (49, .owned (encF 1 d_LIE v4.1)), (56, .owned (encF 1 d_LIE v5.1))]⟩) (b11_1 v2 v3 v4 v5 v6) (fun q => q = r) hr rfl ?_)
    ·exact lf
    ·intro s1 hr
     unfold b11_1 at hr
     refine S.gx [9, 12, 13, 16, 20] ?_
     repeat refine gA ?_
     refine ⟨?_, ?_⟩ <;> intro hc
     ·have hr := ifP1 hr hc
      obtain ⟨hg7, hr⟩ := of_guard1 hr
      obtain ⟨hg8, hr⟩ := of_guard1 hr
      obtain ⟨hg9, hr⟩ := of_guard1 hr
      obtain ⟨hg10, hr⟩ := of_guard1 hr
      obtain ⟨hg11, hr⟩ := of_guard1 hr
      obtain ⟨hg12, hr⟩ := of_guard1 hr
      obtain ⟨hg13, hr⟩ := of_guard1 hr
      obtain ⟨hg14, hr⟩ := of_guard1 hr
      obtain ⟨hg15, hr⟩ := of_guard1 hr
      repeat refine gA ?_
      refine S.prune [2, 5, 7, 9, 11, 15, 16] ?_
      refine S.gx [9, 12, 13, 20] ?_
      repeat refine gA ?_
      refine S.sees [2, 5, 7, 9, 11, 15, 16] [(2, 2), (15, 15)] [(134, 2001500), (35, 35), (42, 42), (49, 49), (56, 56)] ?_ hr
      exact lf
     ·have hr := ifN1 hr hc
      repeat refine gA ?_
      have hr := of_out0 hr
      repeat refine gA ?_
      refine S.own0b 15 1 2001501 5 rfl rfl (nL rfl) rfl ?_
      refine S.sees [2, 7, 9, 11, 15, 17] [(2, 2), (15, 15)] [(2001501, 2001501), (42, 42), (49, 49), (56, 56), (2001500, 2001500)] ?_ (Stop.iter S (fun s2 => ⟨[(2, .c (.ref 2 0)), (7, .c (.own 42)), (9, .c (.own 49)), (11, .c (.own 56)), (15, .c (.ref 15 0)), (17, .c (.d (.int .i64 s2.1)))], [(2, [.nils, .nils, .nils, .nils, .d (.int .i64 0), .d (.int .i64 0), .d (.int .i64 0), .d (.int .i64 0)]), (15, [.own 2001500, .own 2001501, .nils, .nils, .d (.int .i64 (v6.1.getD 0 default)), .d (.int .i64 (v6.1.getD 1 default)), .d (.int .i64 (v6.1.getD 2 default)), .d (.int .i64 (v6.1.getD 3 default))])], [(2001501, .owned (encF 5 d_IIIII s2.2)), (42, .owned (encF 1 d_LIE v3.1)), (49, .owned (encF 1 d_LIE v4.1)), (56, .owned (encF 1 d_LIE v5.1)), (2001500, .owned (encF 4 d_IIII s1.2))]⟩) (b11_2 v3 v4 v5 v6 s1) (fun q => q = r) hr rfl ?_)
      ·exact lf
      ·intro s2 hr
       unfold b11_2 at hr
       refine S.gx [9, 12, 13, 16, 20] ?_
       repeat refine gA ?_
       refine ⟨?_, ?_⟩ <;> intro hc
       ·have hr := ifP1 hr hc
        obtain ⟨hg16, hr⟩ := of_guard1 hr
        obtain ⟨hg17, hr⟩ := of_guard1 hr
        obtain ⟨hg18, hr⟩ := of_guard1 hr
        obtain ⟨hg19, hr⟩ := of_guard1 hr
        obtain ⟨hg20, hr⟩ := of_guard1 hr
        obtain ⟨hg21, hr⟩ := of_guard1 hr
        obtain ⟨hg22, hr⟩ := of_guard1 hr
        obtain ⟨hg23, hr⟩ := of_guard1 hr
        obtain ⟨hg24, hr⟩ := of_guard1 hr
        obtain ⟨hg25, hr⟩ := of_guard1 hr
        obtain ⟨hg26, hr⟩ := of_guard1 hr
        repeat refine gA ?_
        refine S.prune [2, 7, 9, 11, 15, 17] ?_
        refine S.gx [9, 12, 13, 16] ?_
        repeat refine gA ?_
        refine S.sees [2, 7, 9, 11, 15, 17] [(2, 2), (15, 15)] [(178, 2001501), (42, 42), (49, 49), (56, 56), (2001500, 2001500)] ?_ hr
        exact lf
       ·have hr := ifN1 hr hc
        repeat refine gA ?_
        have hr := of_out0 hr
        repeat refine gA ?_
        refine S.own0b 15 2 2001502 3 rfl rfl (nL rfl) rfl ?_
        refine S.sees [2, 9, 11, 15, 18] [(2, 2), (15, 15)] [(2001502, 2001502), (49, 49), (56, 56), (2001500, 2001500), (2001501, 2001501)] ?_ (Stop.iter S (fun s3 => ⟨[(2, .c (.ref 2 0)), (9, .c (.own 49)), (11, .c (.own 56)), (15, .c (.ref 15 0)), (18, .c (.d (.int .i64 s3.1)))], [(2, [.nils, .nils, .nils, .nils, .d (.int .i64 0), .d (.int .i64 0), .d (.int .i64 0), .d (.int .i64 0)]), (15, [.own 2001500, .own 2001501, .own 2001502, .nils, .d (.int .i64 (v6.1.getD 0 default)), .d (.int .i64 (v6.1.getD 1 default)), .d (.int .i64 (v6.1.getD 2 default)), .d (.int .i64 (v6.1.getD 3 default))])], [(2001502, .owned (encF 3 d_III s3.2)), (49, .owned (encF 1 d_LIE v4.1)), (56, .owned (encF 1 d_LIE v5.1)), (2001500, .owned (encF 4 d_IIII s1.2)), (2001501, .owned (encF 5 d_IIIII s2.2))]⟩) (b11_3 v4 v5 v6 s1 s2) (fun q => q = r) hr rfl ?_)
        ·exact lf
        ·intro s3 hr
         unfold b11_3 at hr
         refine S.gx [9, 12, 13, 16, 20] ?_
         repeat refine gA ?_
         refine ⟨?_, ?_⟩ <;> intro hc
         ·have hr := ifP1 hr hc
          obtain ⟨hg27, hr⟩ := of_guard1 hr
          obtain ⟨hg28, hr⟩ := of_guard1 hr
          obtain ⟨hg29, hr⟩ := of_guard1 hr
          obtain ⟨hg30, hr⟩ := of_guard1 hr
          obtain ⟨hg31, hr⟩ := of_guard1 hr
          obtain ⟨hg32, hr⟩ := of_guard1 hr
          obtain ⟨hg33, hr⟩ := of_guard1 hr
          repeat refine gA ?_
          refine S.sees [2, 9, 11, 15, 18] [(2, 2), (15, 15)] [(209, 2001502), (49, 49), (56, 56), (2001500, 2001500), (2001501, 2001501)] ?_ hr
          exact lf
         ·have hr := ifN1 hr hc
          repeat refine gA ?_
          have hr := of_out0 hr
          repeat refine gA ?_
          refine S.own0b 15 3 2001503 2 rfl rfl (nL rfl) rfl ?_
          refine S.sees [2, 11, 15, 19] [(2, 2), (15, 15)] [(2001503, 2001503), (56, 56), (2001500, 2001500), (2001501, 2001501), (2001502, 2001502)] ?_ (Stop.iter S (fun s4 => ⟨[(2, .c (.ref 2 0)), (11, .c (.own 56)), (15, .c (.ref 15 0)), (19, .c (.d (.int .i64 s4.1)))], [(2, [.nils, .nils, .nils, .nils, .d (.int .i64 0), .d (.int .i64 0), .d (.int .i64 0), .d (.int .i64 0)]), (15, [.own 2001500, .own 2001501, .own 2001502, .own 2001503, .d (.int .i64 (v6.1.getD 0 default)), .d (.int .i64 (v6.1.getD 1 default)), .d (.int .i64 (v6.1.getD 2 default)), .d (.int .i64 (v6.1.getD 3 default))])], [(2001503, .owned (encF 2 d_II s4.2)), (56, .owned (encF 1 d_LIE v5.1)), (2001500, .owned (encF 4 d_IIII s1.2)), (2001501, .owned (encF 5 d_IIIII s2.2)), (2001502, .owned (encF 3 d_III s3.2))]⟩) (b11_4 v5 v6 s1 s2 s3) (fun q => q = r) hr rfl ?_)
          ·exact lf
          ·intro s4 hr
           unfold b11_4 at hr
           refine S.gx [9, 12, 13, 16, 20] ?_
           repeat refine gA ?_
           refine ⟨?_, ?_⟩ <;> intro hc
           ·have hr := ifP1 hr hc
            obtain ⟨hg34, hr⟩ := of_guard1 hr
            obtain ⟨hg35, hr⟩ := of_guard1 hr
            obtain ⟨hg36, hr⟩ := of_guard1 hr
            obtain ⟨hg37, hr⟩ := of_guard1 hr
            obtain ⟨hg38, hr⟩ := of_guard1 hr
            repeat refine gA ?_
            refine S.sees [2, 11, 15, 19] [(2, 2), (15, 15)] [(233, 2001503), (56, 56), (2001500, 2001500), (2001501, 2001501), (2001502, 2001502)] ?_ hr
            exact lf
           ·have hr := ifN1 hr hc
            repeat refine gA ?_
            have hr := of_out0 hr
            obtain ⟨v39, hv39, hr⟩ := of_bind0 hr
            try simp only [hv39, oG, oI, true_and, and_assoc]
            repeat refine gA ?_
            refine ⟨?_, ?_⟩ <;> intro hc
            ·have hr := ifP hr hc
             repeat refine gA ?_
             cases hr
             exact lf
            ·have hr := ifN hr hc
             repeat refine gA ?_
             cases hr
             exact lf
theorem f11 : FnFact Tryz.prog 11 T11.sp := ⟨⟨Tryz.f11, Tryz.func11, by decide, rfl⟩, v11⟩
end
end Go.Proofs.YtdlogfepbkojkaaGreatDoor

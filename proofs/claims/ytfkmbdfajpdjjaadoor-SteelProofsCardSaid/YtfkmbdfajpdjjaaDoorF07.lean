/- Contracts of functions, written by wip/dec. -/
import Derived.Test.YtfkmbdfajpdjjaaDoorF00
import Derived.Test.YtfkmbdfajpdjjaaDoorF05
import Derived.Test.YtfkmbdfajpdjjaaDoorF06
set_option linter.unusedVariables false
set_option linter.unusedSimpArgs false
set_option maxHeartbeats 4000000
set_option maxRecDepth 20000
namespace Go.Proofs.YtfkmbdfajpdjjaaDoor
open Go.Abs

/- martensite/martensitelaw04.SteelProofs -/
def r10 (a0 : List (ByteArray × Int × Int)) : Option (Bool) :=
  (r12).bind fun v1 =>
   if (!v1) = true then
    some false
    else if (decide ((a0.length : Int) > 14)) = true then
     some true
     else (r47 a0).bind fun v2 =>
      (r46 v2).bind fun v3 =>
       (r48 v2).bind fun v4 =>
        (r49 a0).bind fun v5 =>
         if (v5 != 0) = true then
          some ((((v3.2.2 == v5) && (v4.2.2 == v5)) && ((v3.1 == 0) && (v3.2.1 == 0))) && ((decide (v4.1 = ByteArray.empty)) && (decide (v4.2.1 = ByteArray.empty))))
          else (r50 a0).bind fun v6 =>
           (r51 a0).bind fun v7 =>
            if (((v6.2.2 == v7.2.2) || (v6.2.2 && ((((v3.2.2 != 0) || (!((v3.1 == v6.1) && (v3.2.1 == v6.2.1)))) || (v4.2.2 != 12)) || (!((decide (v4.1 = ByteArray.empty)) && (decide (v4.2.1 = ByteArray.empty))))))) || (v7.2.2 && ((((v4.2.2 != 0) || (!((decide (v4.1 = v7.1)) && (decide (v4.2.1 = v7.2.1))))) || (v3.2.2 != 13)) || (!((v3.1 == 0) && (v3.2.1 == 0)))))) = true then
             some false
             else if ((decide ((a0.length : Int) < 2)) || (!v6.2.2)) = true then
              some true
              else if 0 ≤ 1 ∧ 1 ≤ (a0.length : Int) ∧ (a0.length : Int) ≤ (a0.length : Int) then
               (r47 ((a0.drop 1).take (a0.length - 1))).bind fun v8 =>
                (r46 v8).bind fun v9 =>
                 some (((v9.2.2 == 0) && (decide (v9.1 ≤ v3.1))) && (decide (v3.2.1 ≤ v9.2.1)))
               else none
def T10 : TSpec qA29 := mkT qE29 qd29 r10 qu3 false
theorem TP10 (c0 : D) : T10.sp.pre [.c c0] = (eqvArgs (qt29 c0) (qp29 qw29 c0) ∧ (qp29 r10 c0).isSome = true) := (rfl)
theorem TR10 (c0 : D) : T10.sp.res [.c c0] = qu3 ((qp29 r10 c0).getD default) := (rfl)
theorem TA10 : T10.sp.alias = false := (rfl)
def tb10 : Fns := lk [(12, T12.sp), (46, T46.sp), (47, T47.sp), (48, T48.sp), (49, T49.sp), (50, T50.sp), (51, T51.sp)]
theorem tb10_ok : FnsOk Tryd.prog tb10 := .cons f12 (.cons f46 (.cons f47 (.cons f48 (.cons f49 (.cons f50 (.cons f51 (FnsOk.nil)))))))
theorem tb10_12 : tb10 12 = some T12.sp := rfl
theorem tb10_46 : tb10 46 = some T46.sp := rfl
theorem tb10_47 : tb10 47 = some T47.sp := rfl
theorem tb10_48 : tb10 48 = some T48.sp := rfl
theorem tb10_49 : tb10 49 = some T49.sp := rfl
theorem tb10_50 : tb10 50 = some T50.sp := rfl
theorem tb10_51 : tb10 51 = some T51.sp := rfl
attribute [go_sem] TP10 TR10 TA10
section
attribute [local go_sem] T10 tb10_12 tb10_46 tb10_47 tb10_48 tb10_49 tb10_50 tb10_51 Tryd.results10
theorem v10 : Valid Tryd.prog 10 T10.sp := by
 refine valid_t (fn := Tryd.f10) (n := 138) ty_ok tb10_ok Tryd.func10 rfl Tryd.ntmps10 ?_
 rintro a0 hx
 obtain ⟨r, hr⟩ := oE (show (r10 a0).isSome = true from hx)
 have hres : T10.res a0 = qu3 r := by simp only [T10, mkT, hr, oG]
 refine ⟨nL rfl, fun stop S => ?_⟩
 rw [hres] at S
 unfold r10 at hr
 refine S.gx [12, 13, 14] ?_
 obtain ⟨v1, hv1, hr⟩ := of_bind0 hr
 try simp only [hv1, oG, oI, true_and, and_assoc]
 repeat refine gA ?_
 refine ⟨?_, ?_⟩ <;> intro hc
 ·have hr := ifP hr hc
  repeat refine gA ?_
  cases hr
  exact lf
 ·have hr := ifN hr hc
  repeat refine gA ?_
  refine ⟨?_, ?_⟩ <;> intro hc
  ·have hr := ifP hr hc
   repeat refine gA ?_
   cases hr
   exact lf
  ·have hr := ifN hr hc
   obtain ⟨v2, hv2, hr⟩ := of_bind0 hr
   obtain ⟨v3, hv3, hr⟩ := of_bind0 hr
   obtain ⟨v4, hv4, hr⟩ := of_bind0 hr
   obtain ⟨v5, hv5, hr⟩ := of_bind0 hr
   try simp only [hv2, hv3, hv4, hv5, Option.getD_some, Option.isSome_some, true_and, and_assoc]
   repeat refine gA ?_
   refine ⟨?_, ?_⟩ <;> intro hc
   ·have hr := ifP hr hc
    repeat (first | refine gA ?_ | refine gB ?_)
    cases hr
    exact lf
   ·have hr := ifN hr hc
    obtain ⟨v6, hv6, hr⟩ := of_bind0 hr
    obtain ⟨v7, hv7, hr⟩ := of_bind0 hr
    try simp only [hv6, hv7, Option.getD_some, Option.isSome_some, true_and, and_assoc]
    repeat refine gA ?_
    refine S.prune [0, 3, 4, 5, 6, 8, 9, 10, 11] ?_
    refine S.gx [13, 14] ?_
    repeat (first | refine gA ?_ | refine gB ?_)
    repeat refine gA ?_
    refine ⟨?_, ?_⟩ <;> intro hc
    ·have hr := ifP hr hc
     repeat refine gA ?_
     refine S.prune [] ?_
     refine S.gx [12, 14] ?_
     repeat refine gA ?_
     cases hr
     exact lf
    ·have hr := ifN hr hc
     repeat refine gA ?_
     refine S.prune [0, 3, 9] ?_
     refine S.gx [12, 13] ?_
     repeat (first | refine gA ?_ | refine gB ?_)
     repeat refine gA ?_
     refine ⟨?_, ?_⟩ <;> intro hc
     ·have hr := ifP hr hc
      repeat refine gA ?_
      cases hr
      exact lf
     ·have hr := ifN hr hc
      obtain ⟨hg10, hr⟩ := of_guard0 hr
      have hi11 : Nonempty (PLift (a0.length ≤ a0.length)) := ⟨⟨by omega⟩⟩
      obtain ⟨v8, hv8, hr⟩ := of_bind0 hr
      obtain ⟨v9, hv9, hr⟩ := of_bind0 hr
      try simp only [decF_subE0]
      try simp only [decF_subE, dec_IIII, dec_LIIIIE, dec_IIIII, dec_LIIIIIE, dec_III, dec_LIIIE, dec_II, dec_LIIE, dec_I, dec_ILIIEI, dec_LILIIEIE, dec_B, dec_LIE, dec_SII, dec_LSIIE, dec_S, hv8, hv9, Option.getD_some, Option.isSome_some, true_and, and_assoc]
      repeat (first | refine gA ?_ | refine gB ?_)
      cases hr
      exact lf
theorem f10 : FnFact Tryd.prog 10 T10.sp := ⟨⟨Tryd.f10, Tryd.func10, by decide, rfl⟩, v10⟩
end
end Go.Proofs.YtfkmbdfajpdjjaaDoor

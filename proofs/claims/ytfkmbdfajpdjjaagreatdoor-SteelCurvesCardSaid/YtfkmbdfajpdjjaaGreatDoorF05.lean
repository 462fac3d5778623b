/- Contracts of functions, written by wip/dec. -/
import Derived.Test.YtfkmbdfajpdjjaaGreatDoorF00
import Derived.Test.YtfkmbdfajpdjjaaGreatDoorF01
import Derived.Test.YtfkmbdfajpdjjaaGreatDoorF03
import Derived.Test.YtfkmbdfajpdjjaaGreatDoorF04
set_option linter.unusedVariables false
set_option linter.unusedSimpArgs false
set_option maxHeartbeats 4000000
set_option maxRecDepth 20000
namespace Go.Proofs.YtfkmbdfajpdjjaaGreatDoor
open Go.Abs

/- martensite/martensitelaw04.awake -/
def r6 : Option (Bool) :=
  (r40).bind fun v1 =>
   (r41).bind fun v2 =>
    (r39 v1.1 v1.2.1 v1.2.2.1 v1.2.2.2.1 v1.2.2.2.2.1 v1.2.2.2.2.2.1 v1.2.2.2.2.2.2.1 v1.2.2.2.2.2.2.2 v2.1 v2.2.1 v2.2.2.1 v2.2.2.2.1 v2.2.2.2.2.1 v2.2.2.2.2.2.1 v2.2.2.2.2.2.2 [1100, 1200, 1200] 0 0 0).bind fun v3 =>
     (r42).bind fun v4 =>
      (r39 v1.1 v1.2.1 v1.2.2.1 v1.2.2.2.1 v1.2.2.2.2.1 v1.2.2.2.2.2.1 v1.2.2.2.2.2.2.1 v1.2.2.2.2.2.2.2 v4.1 v4.2.1 v4.2.2.1 v4.2.2.2.1 v4.2.2.2.2.1 v4.2.2.2.2.2.1 v4.2.2.2.2.2.2 [450, 300] 0 0 0).bind fun v5 =>
       (r43 v1.1 v1.2.1 v1.2.2.1 v1.2.2.2.1 v1.2.2.2.2.1 v1.2.2.2.2.2.1 v1.2.2.2.2.2.2.1 v1.2.2.2.2.2.2.2 0 100000 0 900000 0 0 5).bind fun v6 =>
        (r32 v1.1 v1.2.1 v1.2.2.1 v1.2.2.2.1 v1.2.2.2.2.1 v1.2.2.2.2.2.1 v1.2.2.2.2.2.2.1 v1.2.2.2.2.2.2.2 0 0 900000 1000000 0 100000 0 0 0 0 0 0 0 0).bind fun v7 =>
         (r44 [(700, 750), (500, 600), (200, 250)] 550).bind fun v8 =>
          some ((((((((((v3.2.2.2.2.2.2.2 == 0) && ((v3.1 == 0) && ((v3.2.1 == 1000000) && ((v3.2.2.1 == 0) && ((v3.2.2.2.1 == 0) && ((v3.2.2.2.2.1 == 0) && ((v3.2.2.2.2.2.1 == 70) && (v3.2.2.2.2.2.2.1 == 0)))))))) && (v5.2.2.2.2.2.2.2 == 0)) && ((v5.1 == 0) && ((v5.2.1 == 100000) && ((v5.2.2.1 == 0) && ((v5.2.2.2.1 == 900000) && ((v5.2.2.2.2.1 == 0) && ((v5.2.2.2.2.2.1 == 0) && (v5.2.2.2.2.2.2.1 == 5)))))))) && (v6.2 == 0)) && (v6.1 == 740)) && (v7.2.2 == 0)) && ((v7.1 == 250) && (v7.2.1 == 265))) && (v8.2.2 == 0)) && ((v8.1 == 1) && (v8.2.1 == 2)))
def T6 : TSpec qA0 := mkT qE0 qd0 (fun _ => r6) qu3 false
theorem TP6 : T6.sp.pre [] = (eqvArgs (qt0 ) (qp0 qw0 ) ∧ (qp0 r6).isSome = true) := (rfl)
theorem TR6 : T6.sp.res [] = qu3 ((qp0 r6).getD default) := (rfl)
theorem TA6 : T6.sp.alias = false := (rfl)
def tb6 : Fns := lk [(32, T32.sp), (39, T39.sp), (40, T40.sp), (41, T41.sp), (42, T42.sp), (43, T43.sp), (44, T44.sp)]
theorem tb6_ok : FnsOk Tryz.prog tb6 := .cons f32 (.cons f39 (.cons f40 (.cons f41 (.cons f42 (.cons f43 (.cons f44 (FnsOk.nil)))))))
theorem tb6_32 : tb6 32 = some T32.sp := rfl
theorem tb6_39 : tb6 39 = some T39.sp := rfl
theorem tb6_40 : tb6 40 = some T40.sp := rfl
theorem tb6_41 : tb6 41 = some T41.sp := rfl
theorem tb6_42 : tb6 42 = some T42.sp := rfl
theorem tb6_43 : tb6 43 = some T43.sp := rfl
theorem tb6_44 : tb6 44 = some T44.sp := rfl
attribute [go_sem] TP6 TR6 TA6
section
attribute [local go_sem] T6 tb6_32 tb6_39 tb6_40 tb6_41 tb6_42 tb6_43 tb6_44 Tryz.results6
theorem v6 : Valid Tryz.prog 6 T6.sp := by
 refine valid_t (fn := Tryz.f6) (n := 91) ty_ok tb6_ok Tryz.func6 rfl Tryz.ntmps6 ?_
 intro _ hx
 obtain ⟨r, hr⟩ := oE (show (r6).isSome = true from hx)
 have hres : T6.res () = qu3 r := by simp only [T6, mkT, hr, oG]
 refine ⟨nL rfl, fun stop S => ?_⟩
 rw [hres] at S
 unfold r6 at hr
 refine S.gx [5] ?_
 obtain ⟨v1, hv1, hr⟩ := of_bind0 hr
 obtain ⟨v2, hv2, hr⟩ := of_bind0 hr
 obtain ⟨v3, hv3, hr⟩ := of_bind0 hr
 obtain ⟨v4, hv4, hr⟩ := of_bind0 hr
 obtain ⟨v5, hv5, hr⟩ := of_bind0 hr
 obtain ⟨v6, hv6, hr⟩ := of_bind0 hr
 obtain ⟨v7, hv7, hr⟩ := of_bind0 hr
 try simp only [hv1, hv2, hv3, hv4, hv5, hv6, hv7, Option.getD_some, Option.isSome_some, true_and, and_assoc]
 repeat refine gA ?_
 refine S.prune [1, 2, 3, 4, 5, 6, 7, 8] ?_
 refine S.gx [] ?_
 obtain ⟨v8, hv8, hr⟩ := of_bind0 hr
 try simp only [hv8, oG, oI, true_and, and_assoc]
 repeat refine gA ?_
 repeat (first | refine gA ?_ | refine gB ?_)
 cases hr
 exact lf
theorem f6 : FnFact Tryz.prog 6 T6.sp := ⟨⟨Tryz.f6, Tryz.func6, by decide, rfl⟩, v6⟩
end
end Go.Proofs.YtfkmbdfajpdjjaaGreatDoor

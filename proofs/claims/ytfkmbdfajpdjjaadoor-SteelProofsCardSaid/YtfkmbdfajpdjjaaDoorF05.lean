/- Contracts of functions, written by wip/dec. -/
import Derived.Test.YtfkmbdfajpdjjaaDoorF00
import Derived.Test.YtfkmbdfajpdjjaaDoorF01
import Derived.Test.YtfkmbdfajpdjjaaDoorF03
import Derived.Test.YtfkmbdfajpdjjaaDoorF04
set_option linter.unusedVariables false
set_option linter.unusedSimpArgs false
set_option maxHeartbeats 4000000
set_option maxRecDepth 20000
namespace Go.Proofs.YtfkmbdfajpdjjaaDoor
open Go.Abs

/- martensite/martensitelaw04.awake -/
def r12 : Option (Bool) :=
  (r59).bind fun v1 =>
   (r60).bind fun v2 =>
    (r23 v1.1 v1.2.1 v1.2.2.1 v1.2.2.2.1 v1.2.2.2.2.1 v1.2.2.2.2.2.1 v1.2.2.2.2.2.2.1 v1.2.2.2.2.2.2.2 v2.1 v2.2.1 v2.2.2.1 v2.2.2.2.1 v2.2.2.2.2.1 v2.2.2.2.2.2.1 v2.2.2.2.2.2.2 [1100, 1200, 1200] 0 0 0).bind fun v3 =>
     (r61).bind fun v4 =>
      (r23 v1.1 v1.2.1 v1.2.2.1 v1.2.2.2.1 v1.2.2.2.2.1 v1.2.2.2.2.2.1 v1.2.2.2.2.2.2.1 v1.2.2.2.2.2.2.2 v4.1 v4.2.1 v4.2.2.1 v4.2.2.2.1 v4.2.2.2.2.1 v4.2.2.2.2.2.1 v4.2.2.2.2.2.2 [450, 300] 0 0 0).bind fun v5 =>
       (r31 v1.1 v1.2.1 v1.2.2.1 v1.2.2.2.1 v1.2.2.2.2.1 v1.2.2.2.2.2.1 v1.2.2.2.2.2.2.1 v1.2.2.2.2.2.2.2 0 100000 0 900000 0 0 5).bind fun v6 =>
        (r58 v1.1 v1.2.1 v1.2.2.1 v1.2.2.2.1 v1.2.2.2.2.1 v1.2.2.2.2.2.1 v1.2.2.2.2.2.2.1 v1.2.2.2.2.2.2.2 0 0 900000 1000000 0 100000 0 0 0 0 0 0 0 0).bind fun v7 =>
         (r25 [(700, 750), (500, 600), (200, 250)] 550).bind fun v8 =>
          some ((((((((((v3.2.2.2.2.2.2.2 == 0) && ((v3.1 == 0) && ((v3.2.1 == 1000000) && ((v3.2.2.1 == 0) && ((v3.2.2.2.1 == 0) && ((v3.2.2.2.2.1 == 0) && ((v3.2.2.2.2.2.1 == 70) && (v3.2.2.2.2.2.2.1 == 0)))))))) && (v5.2.2.2.2.2.2.2 == 0)) && ((v5.1 == 0) && ((v5.2.1 == 100000) && ((v5.2.2.1 == 0) && ((v5.2.2.2.1 == 900000) && ((v5.2.2.2.2.1 == 0) && ((v5.2.2.2.2.2.1 == 0) && (v5.2.2.2.2.2.2.1 == 5)))))))) && (v6.2 == 0)) && (v6.1 == 740)) && (v7.2.2 == 0)) && ((v7.1 == 250) && (v7.2.1 == 265))) && (v8.2.2 == 0)) && ((v8.1 == 1) && (v8.2.1 == 2)))
def T12 : TSpec qA0 := mkT qE0 qd0 (fun _ => r12) qu3 false
theorem TP12 : T12.sp.pre [] = (eqvArgs (qt0 ) (qp0 qw0 ) ∧ (qp0 r12).isSome = true) := (rfl)
theorem TR12 : T12.sp.res [] = qu3 ((qp0 r12).getD default) := (rfl)
theorem TA12 : T12.sp.alias = false := (rfl)
def tb12 : Fns := lk [(23, T23.sp), (25, T25.sp), (31, T31.sp), (58, T58.sp), (59, T59.sp), (60, T60.sp), (61, T61.sp)]
theorem tb12_ok : FnsOk Tryd.prog tb12 := .cons f23 (.cons f25 (.cons f31 (.cons f58 (.cons f59 (.cons f60 (.cons f61 (FnsOk.nil)))))))
theorem tb12_23 : tb12 23 = some T23.sp := rfl
theorem tb12_25 : tb12 25 = some T25.sp := rfl
theorem tb12_31 : tb12 31 = some T31.sp := rfl
theorem tb12_58 : tb12 58 = some T58.sp := rfl
theorem tb12_59 : tb12 59 = some T59.sp := rfl
theorem tb12_60 : tb12 60 = some T60.sp := rfl
theorem tb12_61 : tb12 61 = some T61.sp := rfl
attribute [go_sem] TP12 TR12 TA12
section
attribute [local go_sem] T12 tb12_23 tb12_25 tb12_31 tb12_58 tb12_59 tb12_60 tb12_61 Tryd.results12
theorem v12 : Valid Tryd.prog 12 T12.sp := by
 refine valid_t (fn := Tryd.f12) (n := 91) ty_ok tb12_ok Tryd.func12 rfl Tryd.ntmps12 ?_
 intro _ hx
 obtain ⟨r, hr⟩ := oE (show (r12).isSome = true from hx)
 have hres : T12.res () = qu3 r := by simp only [T12, mkT, hr, oG]
 refine ⟨nL rfl, fun stop S => ?_⟩
 rw [hres] at S
 unfold r12 at hr
 refine S.gx [5] ?_
 obtain ⟨v1, hv1, hr⟩ := of_bind0 hr
 obtain ⟨v2, hv2, hr⟩ := of_bind0 hr
 obtain ⟨v3, hv3, hr⟩ := of_bind0 hr
 obtain ⟨v4, hv4, hr⟩ := of_bind0 hr
 obtain ⟨v5, hv5, hr⟩ := of_bind0 hr
 obtain ⟨v6, hv6, hr⟩ := of_bind0 hr
 obtain ⟨v7, hv7, hr⟩ := of_bind0 hr
 try simp only [hv1, hv2, hv3, hv4, hv5, hv6, hv7, Option.getD_some, Option.isSome_some, true_and, and_assoc]
 repeat refine gA ?_
 refine S.prune [1, 2, 3, 4, 5, 6, 7, 8] ?_
 refine S.gx [] ?_
 obtain ⟨v8, hv8, hr⟩ := of_bind0 hr
 try simp only [hv8, oG, oI, true_and, and_assoc]
 repeat refine gA ?_
 repeat (first | refine gA ?_ | refine gB ?_)
 cases hr
 exact lf
theorem f12 : FnFact Tryd.prog 12 T12.sp := ⟨⟨Tryd.f12, Tryd.func12, by decide, rfl⟩, v12⟩
end
end Go.Proofs.YtfkmbdfajpdjjaaDoor

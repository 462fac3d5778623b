/- Contracts of functions, written by wip/dec. -/
import Derived.Test.YtnepigpnlnmlmaaGreatDoorF00
import Derived.Test.YtnepigpnlnmlmaaGreatDoorF02
import Derived.Test.YtnepigpnlnmlmaaGreatDoorF03
set_option linter.unusedVariables false
set_option linter.unusedSimpArgs false
set_option linter.constructorNameAsVariable false
set_option maxHeartbeats 4000000
set_option maxRecDepth 20000
namespace Go.Proofs.YtnepigpnlnmlmaaGreatDoor
open Go.Abs
section
variable {β:Type} [Inhabited β] (u:β→List RV) (al:Bool)
def qw79 (a0 a1 a2 a3 a4:Int) (a5:Hl) (a6:L_I):List Arg:=[.agg [.int .i64 a0,.int .i64 a1,.int .i64 a2,.int .i64 a3,.int .i64 a4,hE a5,encF 1 d_I a6]]
def qd79:List Arg→Int×Int×Int×Int×Int×Hl×L_I
 | [.agg [c0,c1,c2,c3,c4,c5,c6]]=>(dInt c0,dInt c1,dInt c2,dInt c3,dInt c4,hD c5,decF g_I c6)
 | _=>default
def qT79 (r:Int→Int→Int→Int→Int→Hl→L_I→Option β):=mkT (u7 qw79) qd79 (u7 r) u al
attribute [go_sem] qw79 qd79 qT79
end
def r129 (x1 x2 x3 x6 x4:Int) (x5:Hl) (x0:L_I) (a1:Int):Option (Int×Int×Int×Int×Int×Hl):=
 if 0≤a1∧a1<(x0.length:Int) then
  some (x1,x2,x3,(x0.getD a1.toNat default),x4,x5)
  else none
@[go_sem] def T129:=qT77 qu41 true r129
theorem f129:FnFact Tryz.prog 129 T129.sp:=by
 refine vm .nil Tryz.func129 Tryz.ntmps129 fun ⟨x1,x2,x3,x6,x4,x5,x0,a1⟩ r hr stop S=> ?_
 rw [uq8,r129] at hr
 refine S.gx [] ?_
 exact D0 hr
def b66_1 (x0:L_I):Bd (Int×Int) Int:=fun s1=>
 if (decide (s1.2<(x0.length:Int)))=true then
  if 0≤s1.2∧s1.2<(x0.length:Int) then
   bindC (r71 (x0.getD s1.2.toNat default) 1 200) fun v6=>
    bindC (r65 v6 2) fun v7=>
     bindC (r65 (decide ((x0.getD s1.2.toNat default)>s1.1)) 9) fun v8=>
      bindC (r64 [v7,v8]) fun v9=>
       if (v9 != 0)=true then
        .out (some v9)
        else .next ((x0.getD s1.2.toNat default),IntKind.i64.wrap (s1.2+1))
   else .out none
  else .out (some 0)
def r66 (x1 x3 x4 x2 x5:Int) (x6:Hl) (x0:L_I):Option (Int):=
 (r65 ((x2 == 0) && (x1 != 5)) 20).bind fun v1=>
  (r65 (decide ((x0.length:Int)>0)) 10).bind fun v2=>
   (r64 [v1,v2]).bind fun v3=>
    if (v3 != 0)=true then
     some v3
     else (r129 x1 x3 x4 x2 x5 x6 x0 0).bind fun v4=>
      (r128 7 v4.1 v4.2.1 v4.2.2.1 v4.2.2.2.1 v4.2.2.2.2.1 v4.2.2.2.2.2 0).bind fun v5=>
       if (v5 != 0)=true then
        some v5
        else iterC (b66_1 x0) 1000000000 (0,0)
@[go_sem] def T66:=qT79 qu3 false r66
@[go_sem] def tb66 (k:Nat):=lk [(64,T64.sp),(65,T65.sp),(71,T71.sp),(128,(T128 7).sp),(129,T129.sp)] k
theorem f66:FnFact Tryz.prog 66 T66.sp:=by
 refine vm (tb:=tb66) (.cons f64 (.cons f65 (.cons f71 (.cons (f128 7) (.cons f129 .nil))))) Tryz.func66 Tryz.ntmps66 fun ⟨x1,x3,x4,x2,x5,x6,x0⟩ r hr stop S=> ?_
 rw [uq7,r66] at hr
 refine S.gx [] ?_
 obtain ⟨v1,hv1,hr⟩:=of_bind0 hr
 obtain ⟨v2,hv2,hr⟩:=of_bind0 hr
 obtain ⟨v3,hv3,hr⟩:=of_bind0 hr
 try simp only [hv1,hv2,hv3,Option.getD_some,Option.isSome_some,true_and,and_assoc]
 repeat (first | refine gA ?_ | refine gB ?_)
 refine iW hr (fun hc hr=>D0 hr) fun hc hr=> ?_
 obtain ⟨v4,hv4,hr⟩:=of_bind0 hr
 obtain ⟨v5,hv5,hr⟩:=of_bind0 hr
 refine gb hv4 ?_
 refine gb hv5 ?_
 refine iW hr (fun hc hr=>D0 hr) fun hc hr=> ?_
 refine gr ?_
 refine S.li [5,37,38,39] [] [] (fun s1=>⟨[sI 5 s1.1,(37,.c (.d (encF 1 d_I x0))),sI 38 (x0.length:Int),sI 39 s1.2],[],[]⟩) (b66_1 x0) (fun q=>q=r) hr rfl ?_
 intro s1 hr
 unfold b66_1 at hr
 refine S.gx [] ?_
 exact D1 (S.ss [5,37,38,39] [] []) hr
def b67_1 (a0:L_IIIIIHLIE):Bd (Int×Int) Int:=fun s1=>
 if (decide (s1.2<(a0.length:Int)))=true then
  if 0≤s1.2∧s1.2<(a0.length:Int) then
   .next ((if 61<IntKind.i64.wrap (s1.1*(((a0.getD s1.2.toNat default).2.2.2.2.2.2).length:Int)) then 61 else IntKind.i64.wrap (s1.1*(((a0.getD s1.2.toNat default).2.2.2.2.2.2).length:Int))),IntKind.i64.wrap (s1.2+1))
   else .out none
  else .out (some s1.1)
def r67 (a0:L_IIIIIHLIE):Option (Int):=
 iterC (b67_1 a0) 1000000000 (1,0)
@[go_sem] def T67:=qT75 qu3 false r67
theorem f67:FnFact Tryz.prog 67 T67.sp:=by
 refine vm .nil Tryz.func67 Tryz.ntmps67 fun a0 r hr stop S=> ?_
 rw [uq1,r67] at hr
 refine S.gx [] ?_
 refine gr ?_
 refine S.li [3,6,7,8] [] [] (fun s1=>⟨[sI 3 s1.1,(6,.c (.d (encF 7 d_IIIIIHLIE a0))),sI 7 (a0.length:Int),sI 8 s1.2],[],[]⟩) (b67_1 a0) (fun q=>q=r) hr rfl ?_
 intro s1 hr
 unfold b67_1 at hr
 refine S.gx [] ?_
 exact D1 (S.ss [3,6,7,8] [] []) hr
end Go.Proofs.YtnepigpnlnmlmaaGreatDoor

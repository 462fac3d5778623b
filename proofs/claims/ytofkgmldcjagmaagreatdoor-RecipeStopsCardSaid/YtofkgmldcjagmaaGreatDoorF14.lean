/- Contracts of functions, written by wip/dec. -/
import Derived.Test.YtofkgmldcjagmaaGreatDoorF00
import Derived.Test.YtofkgmldcjagmaaGreatDoorF13
set_option linter.unusedVariables false
set_option linter.unusedSimpArgs false
set_option linter.constructorNameAsVariable false
set_option maxHeartbeats 4000000
set_option maxRecDepth 20000
namespace Go.Proofs.YtofkgmldcjagmaaGreatDoor
open Go.Abs
def r50 (x0 x1:Int) (x2:L_II) (x3:L_LIIE) (a1 a2:Int):Option (Bool):=
 (r18 x0 x1 x2 x3 a1).bind fun v1=>
  some (decide (v1.1>(IntKind.i64.wrap (a2*v1.2))))
@[go_sem] def T50:=qT79 qu2 false r50
@[go_sem] def tb50 (k:Nat):=lk [(18,T18.sp)] k
theorem f50:FnFact Tryz.prog 50 T50.sp:=by
 refine vm (tb:=tb50) (.cons f18 .nil) Tryz.func50 Tryz.ntmps50 fun ⟨x0,x1,x2,x3,a1,a2⟩ r hr stop S=> ?_
 rw [uq6,r50] at hr
 refine S.gx [] ?_
 exact D0 hr
def b14_3 (x1 x2:Int) (x3:L_II) (x0:L_LIIE) (x4 x5:L_I) (x6:L_II) (x7 x8 x9 x10:Int) (s2:L_I×Int×(List (Int×Int))):Bd (Bool×Int) (Ctl (L_I×Int×(List (Int×Int))) (L_II×Int)):=fun s3=>
 if (decide (s3.2<(s2.1.length:Int)))=true then
  if (!s3.1)=true→0≤s3.2∧s3.2<(s2.1.length:Int) then
   if (!s3.1)=true→(r50 x1 x2 x3 x0 (s2.1.getD s3.2.toNat default) x9).isSome=true then
    .next (s3.1 || ((r50 x1 x2 x3 x0 (s2.1.getD s3.2.toNat default) x9).getD default),IntKind.i64.wrap (s3.2+1))
    else .out none
   else .out none
  else .out (some (if (!s3.1)=true then
   .out (some (s2.2.2,0))
   else if (s2.2.1 == x10)=true then
    .out (some ([],24))
    else bindC (r49 x1 x2 x3 x0 x4 x5 x6 x7 x8 s2.1 0 (IntKind.i64.wrap ((x0.length:Int) - 1))) fun v7=>
     if (!v7.2)=true then
      .out (some ([],22))
      else if (s2.2.2.length+1)*16≤140737488355328∧s2.2.2.length+1≤9223372036854775807 then
       .next (v7.1,IntKind.i64.wrap (s2.2.1+1),s2.2.2++[(0,IntKind.i64.wrap ((x0.length:Int) - 1))])
       else .out none))
def b14_2 (x1 x2:Int) (x3:L_II) (x0:L_LIIE) (x4 x5:L_I) (x6:L_II) (x7 x8 x9 x10:Int):Bd (L_I×Int×(List (Int×Int))) (L_II×Int):=fun s2=>
 (iterC (b14_3 x1 x2 x3 x0 x4 x5 x6 x7 x8 x9 x10 s2) 1000000000 (false,0)).getD (.out none)
def b14_1 (x1 x2:Int) (x3:L_II) (x0:L_LIIE) (x4 x5:L_I) (x6:L_II) (x7 x8:Int) (a1:L_II) (x11 x9 x10:Int):Bd ((List (Int×Int))×L_I×Int) (L_II×Int):=fun s1=>
 if (decide (s1.2.2<x11))=true then
  if 0≤s1.2.2∧s1.2.2<(a1.length:Int) then
   bindC (r49 x1 x2 x3 x0 x4 x5 x6 x7 x8 s1.2.1 ((a1.getD s1.2.2.toNat default).1) ((a1.getD s1.2.2.toNat default).2)) fun v1=>
    if (!v1.2)=true then
     .out (some ([],22))
     else if 0≤s1.2.2∧s1.2.2<(a1.length:Int) then
      if (s1.1.length+1)*16≤140737488355328∧s1.1.length+1≤9223372036854775807 then
       .next (s1.1++[((a1.getD s1.2.2.toNat default).1,(a1.getD s1.2.2.toNat default).2)],v1.1,IntKind.i64.wrap (s1.2.2+1))
       else .out none
      else .out none
   else .out none
  else .out (iterC (b14_2 x1 x2 x3 x0 x4 x5 x6 x7 x8 x9 x10) 1000000000 (s1.2.1,0,s1.1))
def r14 (x1 x2:Int) (x3:L_II) (x0:L_LIIE) (x4 x5:L_I) (x6:L_II) (x7 x8:Int) (a1:L_II) (x11 x9 x10:Int):Option (L_II×Int):=
 iterC (b14_1 x1 x2 x3 x0 x4 x5 x6 x7 x8 a1 x11 x9 x10) 1000000000 ([],x4,0)
@[go_sem] def T14:=qT75 qu16 false r14
@[go_sem] def tb14 (k:Nat):=lk [(49,T49.sp),(50,T50.sp)] k
theorem f14:FnFact Tryz.prog 14 T14.sp:=by
 refine vm (tb:=tb14) (.cons f49 (.cons f50 .nil)) Tryz.func14 Tryz.ntmps14 fun ⟨x1,x2,x3,x0,x4,x5,x6,x7,x8,a1,x11,x9,x10⟩ r hr stop S=> ?_
 rw [uq13,r14] at hr
 refine S.gx [11,24] ?_
 refine gr ?_
 refine S.own0 8 1000800 2 rfl rfl ?_
 refine S.sees [1,3,5,8,9,10] [(3,3),(5,5)] [(1000800,1000800)] ?_ (Stop.iter S (fun s1=>⟨[(1,.c (.d (encF 2 d_II a1))),(3,.c (.ref 3 0)),(5,.c (.ref 5 0)),(8,.c (.own 1000800)),(9,.c (.d (encF 1 d_I s1.2.1))),(10,.c (.d (.int .i64 s1.2.2)))],[(3,[.d (.int .i64 x1),.d (.int .i64 x2),.d (encF 2 d_II x3),.d (encF 1 d_LIIE x0),.d (encF 1 d_I x4),.d (encF 1 d_I x5),.d (encF 2 d_II x6),.d (.int .i64 x7),.d (.int .i64 x8)]),(5,[.d (.int .i64 x11),.d (.int .i64 x9),.d (.int .i64 x10)])],[(1000800,.owned (encF 2 d_II s1.1))]⟩) (b14_1 x1 x2 x3 x0 x4 x5 x6 x7 x8 a1 x11 x9 x10) (fun q=>q=r) hr rfl ?_)
 ·exact lf
 ·intro s1 hr
  unfold b14_1 at hr
  refine S.gx [11,24] ?_
  refine gr ?_
  refine iW1 hr (fun hc hr=> ?_) fun hc hr=> ?_
  ·obtain ⟨hg4,hr⟩:=of_guard1 hr
   obtain ⟨v1,hv1,hr⟩:=of_bind1 hr
   refine gb hv1 ?_
   refine iW1 hr (fun hc hr=>D0 hr) fun hc hr=> ?_
   obtain ⟨hg2,hr⟩:=of_guard1 hr
   obtain ⟨hg3,hr⟩:=of_guard1 hr
   refine gr ?_
   refine S.share 35 rfl ?_
   exact D1 (S.ss [1,3,5,8,9,10] [(3,3),(5,5)] [(46,1000800)]) hr
  ·refine gr ?_
   have hr:=of_out0 hr
   refine gr ?_
   refine S.sees [3,5,8,9,13] [(3,3),(5,5)] [(1000800,1000800)] ?_ (Stop.iter S (fun s2=>⟨[(3,.c (.ref 3 0)),(5,.c (.ref 5 0)),(8,.c (.own 1000800)),(9,.c (.d (encF 1 d_I s2.1))),(13,.c (.d (.int .i64 s2.2.1)))],[(3,[.d (.int .i64 x1),.d (.int .i64 x2),.d (encF 2 d_II x3),.d (encF 1 d_LIIE x0),.d (encF 1 d_I x4),.d (encF 1 d_I x5),.d (encF 2 d_II x6),.d (.int .i64 x7),.d (.int .i64 x8)]),(5,[.d (.int .i64 x11),.d (.int .i64 x9),.d (.int .i64 x10)])],[(1000800,.owned (encF 2 d_II s2.2.2))]⟩) (b14_2 x1 x2 x3 x0 x4 x5 x6 x7 x8 x9 x10) (fun q=>q=r) hr rfl ?_)
   ·exact lf
   ·intro s2 hr
    unfold b14_2 at hr
    refine S.gx [11,24] ?_
    refine gr ?_
    obtain ⟨q3,hq,hr⟩:=of_iter1 hr
    refine S.sees [3,5,8,9,13,14,15] [(3,3),(5,5)] [(1000800,1000800)] ?_ (Stop.iter S (fun s3=>⟨[(3,.c (.ref 3 0)),(5,.c (.ref 5 0)),(8,.c (.own 1000800)),(9,.c (.d (encF 1 d_I s2.1))),(13,.c (.d (.int .i64 s2.2.1))),(14,.c (.d (.bool s3.1))),(15,.c (.d (.int .i64 s3.2)))],[(3,[.d (.int .i64 x1),.d (.int .i64 x2),.d (encF 2 d_II x3),.d (encF 1 d_LIIE x0),.d (encF 1 d_I x4),.d (encF 1 d_I x5),.d (encF 2 d_II x6),.d (.int .i64 x7),.d (.int .i64 x8)]),(5,[.d (.int .i64 x11),.d (.int .i64 x9),.d (.int .i64 x10)])],[(1000800,.owned (encF 2 d_II s2.2.2))]⟩) (b14_3 x1 x2 x3 x0 x4 x5 x6 x7 x8 x9 x10 s2) _ hq hr ?_)
    ·exact lf
    ·intro s3 hr
     unfold b14_3 at hr
     refine S.gx [11,24] ?_
     refine gr ?_
     refine iW1 hr (fun hc hr=> ?_) fun hc hr=> ?_
     ·obtain ⟨hg5,hr⟩:=of_guard1 hr
      obtain ⟨hg6,hr⟩:=of_guard1 hr
      repeat (first | refine gG hg5 ?_ | refine gG hg6 ?_ | refine gA ?_ | refine gB ?_)
      exact D1 (S.ss [3,5,8,9,13,14,15] [(3,3),(5,5)] [(1000800,1000800)]) hr
     ·refine gr ?_
      replace hr:=goodC_out hr
      refine gr ?_
      refine iW1 hr (fun hc hr=>D0 hr) fun hc hr=> ?_
      refine gr ?_
      refine iW1 hr (fun hc hr=>D0 hr) fun hc hr=> ?_
      obtain ⟨v7,hv7,hr⟩:=of_bind1 hr
      refine gb hv7 ?_
      refine iW1 hr (fun hc hr=> ?_) fun hc hr=> ?_
      ·refine gr ?_
       refine S.prune [] ?_
       refine S.gx [11] ?_
       exact D0 hr
      ·obtain ⟨hg8,hr⟩:=of_guard1 hr
       refine gr ?_
       refine S.prune [3,5,8,9,13] ?_
       refine S.gx [24] ?_
       refine gr ?_
       refine gr ?_
       refine S.share 85 rfl ?_
       exact D1 (S.ss [3,5,8,9,13] [(3,3),(5,5)] [(93,1000800)]) hr
def b15_1 (a0 a1:L_II):Bd Int Bool:=fun s1=>
 if (decide (s1<(a0.length:Int)))=true then
  if 0≤s1∧s1<(a0.length:Int) then
   if 0≤s1∧s1<(a1.length:Int) then
    if (!(((a0.getD s1.toNat default).1 == (a1.getD s1.toNat default).1) && ((a0.getD s1.toNat default).2 == (a1.getD s1.toNat default).2)))=true then
     .out (some false)
     else .next (IntKind.i64.wrap (s1+1))
    else .out none
   else .out none
  else .out (some true)
def r15 (a0 a1:L_II):Option (Bool):=
 if ((a0.length:Int) != (a1.length:Int))=true then
  some false
  else iterC (b15_1 a0 a1) 1000000000 0
@[go_sem] def T15:=qT11 qu2 false r15
theorem f15:FnFact Tryz.prog 15 T15.sp:=by
 refine vm .nil Tryz.func15 Tryz.ntmps15 fun ⟨a0,a1⟩ r hr stop S=> ?_
 rw [uq2,r15] at hr
 refine S.gx [] ?_
 refine gr ?_
 refine iW hr (fun hc hr=>D0 hr) fun hc hr=> ?_
 refine gr ?_
 refine S.sees [0,1,5] [] [] ?_ (Stop.iter S (fun s1=>⟨[(0,.c (.d (encF 2 d_II a0))),(1,.c (.d (encF 2 d_II a1))),(5,.c (.d (.int .i64 s1)))],[],[]⟩) (b15_1 a0 a1) (fun q=>q=r) hr rfl ?_)
 ·exact lf
 ·intro s1 hr
  unfold b15_1 at hr
  refine S.gx [] ?_
  exact D1 (S.ss [0,1,5] [] []) hr
end Go.Proofs.YtofkgmldcjagmaaGreatDoor

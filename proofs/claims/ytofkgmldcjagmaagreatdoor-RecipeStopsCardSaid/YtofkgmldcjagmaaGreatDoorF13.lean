/- Contracts of functions, written by wip/dec. -/
import Derived.Test.YtofkgmldcjagmaaGreatDoorF00
import Derived.Test.YtofkgmldcjagmaaGreatDoorF12
set_option linter.unusedVariables false
set_option linter.unusedSimpArgs false
set_option linter.constructorNameAsVariable false
set_option maxHeartbeats 4000000
set_option maxRecDepth 20000
namespace Go.Proofs.YtofkgmldcjagmaaGreatDoor
open Go.Abs
section
variable {β:Type} [Inhabited β] (u:β→List RV) (al:Bool)
def qw77 (a0 a1:Int) (a2:L_II) (a3:L_LIIE) (a4 a5:L_I) (a6:L_II) (a7 a8 a9:Int):List Arg:=[.agg [.int .i64 a0,.int .i64 a1,encF 2 d_II a2,encF 1 d_LIIE a3,encF 1 d_I a4,encF 1 d_I a5,encF 2 d_II a6,.int .i64 a7,.int .i64 a8],.c (.int .i64 a9)]
def qd77:List Arg→Int×Int×L_II×L_LIIE×L_I×L_I×L_II×Int×Int×Int
 | [.agg [c0,c1,c2,c3,c4,c5,c6,c7,c8],.c c9]=>(dInt c0,dInt c1,decF g_II c2,decF g_LIIE c3,decF g_I c4,decF g_I c5,decF g_II c6,dInt c7,dInt c8,dInt c9)
 | _=>default
def qT77 (r:Int→Int→L_II→L_LIIE→L_I→L_I→L_II→Int→Int→Int→Option β):=mkT (u10 qw77) qd77 (u10 r) u al
attribute [go_sem] qw77 qd77 qT77
def qw78 (a0:L_II) (a1 a2 a3:Int):List Arg:=[.c (encF 2 d_II a0),.agg [.int .i64 a1,.int .i64 a2,.int .i64 a3]]
def qd78:List Arg→L_II×Int×Int×Int
 | [.c c0,.agg [c1,c2,c3]]=>(decF g_II c0,dInt c1,dInt c2,dInt c3)
 | _=>default
def qT78 (r:L_II→Int→Int→Int→Option β):=mkT (u4 qw78) qd78 (u4 r) u al
attribute [go_sem] qw78 qd78 qT78
def qw80 (a0 a1:Int) (a2:L_II) (a3:L_LIIE) (a4 a5:L_I) (a6:Int):List Arg:=[.agg [.int .i64 a0,.int .i64 a1,encF 2 d_II a2,encF 1 d_LIIE a3],.c (encF 1 d_I a4),.c (encF 1 d_I a5),.c (.int .i64 a6)]
def qd80:List Arg→Int×Int×L_II×L_LIIE×L_I×L_I×Int
 | [.agg [c0,c1,c2,c3],.c c4,.c c5,.c c6]=>(dInt c0,dInt c1,decF g_II c2,decF g_LIIE c3,decF g_I c4,decF g_I c5,dInt c6)
 | _=>default
def qT80 (r:Int→Int→L_II→L_LIIE→L_I→L_I→Int→Option β):=mkT (u7 qw80) qd80 (u7 r) u al
attribute [go_sem] qw80 qd80 qT80
def qw81 (a0 a1:Int) (a2:L_II) (a3:L_LIIE) (a4 a5:L_I) (a6:L_II) (a7 a8:Int) (a9:L_I) (a10 a11:Int):List Arg:=[.agg [.int .i64 a0,.int .i64 a1,encF 2 d_II a2,encF 1 d_LIIE a3,encF 1 d_I a4,encF 1 d_I a5,encF 2 d_II a6,.int .i64 a7,.int .i64 a8],.c (encF 1 d_I a9),.agg [.int .i64 a10,.int .i64 a11]]
def qd81:List Arg→Int×Int×L_II×L_LIIE×L_I×L_I×L_II×Int×Int×L_I×Int×Int
 | [.agg [c0,c1,c2,c3,c4,c5,c6,c7,c8],.c c9,.agg [c10,c11]]=>(dInt c0,dInt c1,decF g_II c2,decF g_LIIE c3,decF g_I c4,decF g_I c5,decF g_II c6,dInt c7,dInt c8,decF g_I c9,dInt c10,dInt c11)
 | _=>default
def qT81 (r:Int→Int→L_II→L_LIIE→L_I→L_I→L_II→Int→Int→L_I→Int→Int→Option β):=mkT (u12 qw81) qd81 (u12 r) u al
attribute [go_sem] qw81 qd81 qT81
def qu42 (v:L_I×Int×Bool):List RV:=[.c (.own (encF 1 d_I v.1)),.c (.d (.int .i64 v.2.1)),.c (.d (.bool v.2.2))]
attribute [go_sem] qu42
def qu43 (v:L_I×Bool):List RV:=[.c (.own (encF 1 d_I v.1)),.c (.d (.bool v.2))]
attribute [go_sem] qu43
end
def b127_1 (x0 x1:Int) (x2:L_II) (x3:L_LIIE) (a1:L_I):Bd Int (Int×Int):=fun s1=>
 if (decide (s1<(a1.length:Int)))=true then
  if 0≤s1∧s1<(a1.length:Int) then
   bindC (r113 x0 x1 x2 x3 (a1.getD s1.toNat default)) fun v1=>
    if (!v1)=true then
     .out (some (s1,2))
     else .next (IntKind.i64.wrap (s1+1))
   else .out none
  else .out (some (0,0))
def r127 (x0 x1:Int) (x2:L_II) (x3:L_LIIE) (a1:L_I):Option (Int×Int):=
 if ((a1.length:Int) != x0)=true then
  some (0,10)
  else iterC (b127_1 x0 x1 x2 x3 a1) 1000000000 0
@[go_sem] def T127:=qT27 qu4 false r127
@[go_sem] def tb127 (k:Nat):=lk [(113,T113.sp)] k
theorem f127:FnFact Tryz.prog 127 T127.sp:=by
 refine vm (tb:=tb127) (.cons f113 .nil) Tryz.func127 Tryz.ntmps127 fun ⟨x0,x1,x2,x3,a1⟩ r hr stop S=> ?_
 rw [uq5,r127] at hr
 refine S.gx [] ?_
 refine gr ?_
 refine iW hr (fun hc hr=>D0 hr) fun hc hr=> ?_
 refine gr ?_
 refine S.sees [1,2,6] [(2,2)] [] ?_ (Stop.iter S (fun s1=>⟨[(1,.c (.d (encF 1 d_I a1))),(2,.c (.ref 2 0)),(6,.c (.d (.int .i64 s1)))],[(2,[.d (.int .i64 x0),.d (.int .i64 x1),.d (encF 2 d_II x2),.d (encF 1 d_LIIE x3)])],[]⟩) (b127_1 x0 x1 x2 x3 a1) (fun q=>q=r) hr rfl ?_)
 ·exact lf
 ·intro s1 hr
  unfold b127_1 at hr
  refine S.gx [] ?_
  exact D1 (S.ss [1,2,6] [(2,2)] []) hr
def b91_1 (x0:Int) (x1 x2:L_I):Bd Int (Int×Int):=fun s1=>
 if (decide (s1<x0))=true then
  if 0≤s1∧s1<(x1.length:Int) then
   if 0≤s1∧s1<(x2.length:Int) then
    if (decide ((x1.getD s1.toNat default)>(x2.getD s1.toNat default)))=true then
     .out (some (s1,9))
     else .next (IntKind.i64.wrap (s1+1))
    else .out none
   else .out none
  else .out (some (0,0))
def r91 (x0 x3:Int) (x4:L_II) (x5:L_LIIE) (x1 x2:L_I):Option (Int×Int):=
 (r127 x0 x3 x4 x5 x1).bind fun v1=>
  if (v1.2 != 0)=true then
   some (v1.1,v1.2)
   else (r127 x0 x3 x4 x5 x2).bind fun v2=>
    if (v2.2 != 0)=true then
     some (v2.1,v2.2)
     else iterC (b91_1 x0 x1 x2) 1000000000 0
@[go_sem] def T91:=qT18 qu4 false r91
@[go_sem] def tb91 (k:Nat):=lk [(127,T127.sp)] k
theorem f91:FnFact Tryz.prog 91 T91.sp:=by
 refine vm (tb:=tb91) (.cons f127 .nil) Tryz.func91 Tryz.ntmps91 fun ⟨x0,x3,x4,x5,x1,x2⟩ r hr stop S=> ?_
 rw [uq6,r91] at hr
 refine S.gx [] ?_
 obtain ⟨v1,hv1,hr⟩:=of_bind0 hr
 refine gb hv1 ?_
 refine iW hr (fun hc hr=>D0 hr) fun hc hr=> ?_
 obtain ⟨v2,hv2,hr⟩:=of_bind0 hr
 refine gb hv2 ?_
 refine iW hr (fun hc hr=>D0 hr) fun hc hr=> ?_
 refine gr ?_
 refine S.sees [2,3,10] [(2,2),(3,3)] [] ?_ (Stop.iter S (fun s1=>⟨[(2,.c (.ref 2 0)),(3,.c (.ref 3 0)),(10,.c (.d (.int .i64 s1)))],[(2,[.d (.int .i64 x0),.d (.int .i64 x3),.d (encF 2 d_II x4),.d (encF 1 d_LIIE x5)]),(3,[.d (encF 1 d_I x1),.d (encF 1 d_I x2)])],[]⟩) (b91_1 x0 x1 x2) (fun q=>q=r) hr rfl ?_)
 ·exact lf
 ·intro s1 hr
  unfold b91_1 at hr
  refine S.gx [] ?_
  exact D1 (S.ss [2,3,10] [(2,2),(3,3)] []) hr
def r58 (x0 x1:Int) (x2:L_II) (x3:L_LIIE) (x4 x5:L_I):Option (Int):=
 (r57 x0 x1 x2 x3).bind fun v1=>
  if (v1 != 0)=true then
   some v1
   else (r91 x0 x1 x2 x3 x4 x5).bind fun v2=>
    some v2.2
@[go_sem] def T58:=qT18 qu3 false r58
@[go_sem] def tb58 (k:Nat):=lk [(57,T57.sp),(91,T91.sp)] k
theorem f58:FnFact Tryz.prog 58 T58.sp:=by
 refine vm (tb:=tb58) (.cons f57 (.cons f91 .nil)) Tryz.func58 Tryz.ntmps58 fun ⟨x0,x1,x2,x3,x4,x5⟩ r hr stop S=> ?_
 rw [uq6,r58] at hr
 refine S.gx [] ?_
 exact D0 hr
def r47 (x1 x2:Int) (x3:L_II) (x0:L_LIIE) (x4 x5:L_I) (x6:L_II) (x7 x8 a1:Int):Option (Bool):=
 (r16 a1 0 (IntKind.i64.wrap ((x0.length:Int) - 1))).bind fun v1=>
  some v1
@[go_sem] def T47:=qT77 qu2 false r47
@[go_sem] def tb47 (k:Nat):=lk [(16,T16.sp)] k
theorem f47:FnFact Tryz.prog 47 T47.sp:=by
 refine vm (tb:=tb47) (.cons f16 .nil) Tryz.func47 Tryz.ntmps47 fun ⟨x1,x2,x3,x0,x4,x5,x6,x7,x8,a1⟩ r hr stop S=> ?_
 rw [uq10,r47] at hr
 refine S.gx [] ?_
 exact D0 hr
def b22_1 (x1 x2:Int) (x3:L_II) (x4:L_LIIE) (x5 x6:L_I) (x0:L_II) (x7 x8:Int):Bd Int (Int×Int):=fun s1=>
 if (decide (s1<(x0.length:Int)))=true then
  if 0≤s1∧s1<(x0.length:Int) then
   bindC (r16 ((x0.getD s1.toNat default).1) 0 1000) fun v3=>
    if (!(!v3))=true→(r16 ((x0.getD s1.toNat default).2) 0 1000).isSome=true then
     if ((!v3) || (!((r16 ((x0.getD s1.toNat default).2) 0 1000).getD default)))=true then
      .out (some (s1,2))
      else if (decide (((x0.getD s1.toNat default).1)>((x0.getD s1.toNat default).2)))=true then
       .out (some (s1,9))
       else .next (IntKind.i64.wrap (s1+1))
     else .out none
   else .out none
  else .out ((r47 x1 x2 x3 x4 x5 x6 x0 x7 x8 x7).bind fun v6=>
   if (!v6)=true then
    some (0,6)
    else (r16 x8 0 4).bind fun v7=>
     if (!v7)=true then
      some (0,2)
      else some (0,0))
def r22 (x1 x2:Int) (x3:L_II) (x4:L_LIIE) (x5 x6:L_I) (x0:L_II) (x7 x8:Int):Option (Int×Int):=
 (r57 x1 x2 x3 x4).bind fun v1=>
  if (v1 != 0)=true then
   some (0,v1)
   else (r58 x1 x2 x3 x4 x5 x6).bind fun v2=>
    if (v2 != 0)=true then
     some (0,v2)
     else if ((x0.length:Int) != x1)=true then
      some (0,10)
      else iterC (b22_1 x1 x2 x3 x4 x5 x6 x0 x7 x8) 1000000000 0
@[go_sem] def T22:=qT19 qu4 false r22
@[go_sem] def tb22 (k:Nat):=lk [(16,T16.sp),(47,T47.sp),(57,T57.sp),(58,T58.sp)] k
theorem f22:FnFact Tryz.prog 22 T22.sp:=by
 refine vm (tb:=tb22) (.cons f16 (.cons f47 (.cons f57 (.cons f58 .nil)))) Tryz.func22 Tryz.ntmps22 fun ⟨x1,x2,x3,x4,x5,x6,x0,x7,x8⟩ r hr stop S=> ?_
 rw [uq9,r22] at hr
 refine S.gx [] ?_
 obtain ⟨v1,hv1,hr⟩:=of_bind0 hr
 refine gb hv1 ?_
 refine iW hr (fun hc hr=>D0 hr) fun hc hr=> ?_
 obtain ⟨v2,hv2,hr⟩:=of_bind0 hr
 refine gb hv2 ?_
 refine iW hr (fun hc hr=>D0 hr) fun hc hr=> ?_
 refine gr ?_
 refine iW hr (fun hc hr=>D0 hr) fun hc hr=> ?_
 refine gr ?_
 refine S.sees [1,6] [(1,1)] [] ?_ (Stop.iter S (fun s1=>⟨[(1,.c (.ref 1 0)),(6,.c (.d (.int .i64 s1)))],[(1,[.d (.int .i64 x1),.d (.int .i64 x2),.d (encF 2 d_II x3),.d (encF 1 d_LIIE x4),.d (encF 1 d_I x5),.d (encF 1 d_I x6),.d (encF 2 d_II x0),.d (.int .i64 x7),.d (.int .i64 x8)])],[]⟩) (b22_1 x1 x2 x3 x4 x5 x6 x0 x7 x8) (fun q=>q=r) hr rfl ?_)
 ·exact lf
 ·intro s1 hr
  unfold b22_1 at hr
  refine S.gx [] ?_
  refine gr ?_
  refine iW1 hr (fun hc hr=> ?_) fun hc hr=>D0 hr
  obtain ⟨hg4,hr⟩:=of_guard1 hr
  obtain ⟨v3,hv3,hr⟩:=of_bind1 hr
  obtain ⟨hg5,hr⟩:=of_guard1 hr
  try simp only [hv3,oG,oI,true_and,and_assoc]
  repeat (first | refine gG hg5 ?_ | refine gA ?_ | refine gB ?_)
  exact D1 (S.ss [1,6] [(1,1)] []) hr
def r11 (x0 x1:Int) (x2:L_II) (x3:L_LIIE) (x4 x5:L_I) (x6:L_II) (x7 x8:Int):Option (Int):=
 (r22 x0 x1 x2 x3 x4 x5 x6 x7 x8).bind fun v1=>
  some v1.2
@[go_sem] def T11:=qT19 qu3 false r11
@[go_sem] def tb11 (k:Nat):=lk [(22,T22.sp)] k
theorem f11:FnFact Tryz.prog 11 T11.sp:=by
 refine vm (tb:=tb11) (.cons f22 .nil) Tryz.func11 Tryz.ntmps11 fun ⟨x0,x1,x2,x3,x4,x5,x6,x7,x8⟩ r hr stop S=> ?_
 rw [uq9,r11] at hr
 refine S.gx [] ?_
 exact D0 hr
def b12_1 (x0 x1:Int) (x2:L_II) (x3:L_LIIE) (x4 x5:L_I) (x6:L_II) (x7 x8:Int) (a1:L_II):Bd Int Int:=fun s1=>
 if (decide (s1<(a1.length:Int)))=true then
  if 0≤s1∧s1<(a1.length:Int) then
   bindC (r16 ((a1.getD s1.toNat default).1) 0 10000) fun v1=>
    if (!v1)=true then
     .out (some 2)
     else if 0≤s1∧s1<(a1.length:Int) then
      bindC (r47 x0 x1 x2 x3 x4 x5 x6 x7 x8 ((a1.getD s1.toNat default).2)) fun v2=>
       if (!v2)=true then
        .out (some 6)
        else .next (IntKind.i64.wrap (s1+1))
      else .out none
   else .out none
  else .out (some 0)
def r12 (x0 x1:Int) (x2:L_II) (x3:L_LIIE) (x4 x5:L_I) (x6:L_II) (x7 x8:Int) (a1:L_II):Option (Int):=
 if (decide ((a1.length:Int)>200))=true then
  some 8
  else iterC (b12_1 x0 x1 x2 x3 x4 x5 x6 x7 x8 a1) 1000000000 0
@[go_sem] def T12:=qT39 qu3 false r12
@[go_sem] def tb12 (k:Nat):=lk [(16,T16.sp),(47,T47.sp)] k
theorem f12:FnFact Tryz.prog 12 T12.sp:=by
 refine vm (tb:=tb12) (.cons f16 (.cons f47 .nil)) Tryz.func12 Tryz.ntmps12 fun ⟨x0,x1,x2,x3,x4,x5,x6,x7,x8,a1⟩ r hr stop S=> ?_
 rw [uq10,r12] at hr
 refine S.gx [] ?_
 refine gr ?_
 refine iW hr (fun hc hr=>D0 hr) fun hc hr=> ?_
 refine gr ?_
 refine S.sees [1,2,5] [(2,2)] [] ?_ (Stop.iter S (fun s1=>⟨[(1,.c (.d (encF 2 d_II a1))),(2,.c (.ref 2 0)),(5,.c (.d (.int .i64 s1)))],[(2,[.d (.int .i64 x0),.d (.int .i64 x1),.d (encF 2 d_II x2),.d (encF 1 d_LIIE x3),.d (encF 1 d_I x4),.d (encF 1 d_I x5),.d (encF 2 d_II x6),.d (.int .i64 x7),.d (.int .i64 x8)])],[]⟩) (b12_1 x0 x1 x2 x3 x4 x5 x6 x7 x8 a1) (fun q=>q=r) hr rfl ?_)
 ·exact lf
 ·intro s1 hr
  unfold b12_1 at hr
  refine S.gx [] ?_
  exact D1 (S.ss [1,2,5] [(2,2)] []) hr
def r13 (a0:L_II) (x2 x0 x1:Int):Option (Int):=
 (r16 x2 0 (a0.length:Int)).bind fun v1=>
  if (!(!v1))=true→(r48 x0).isSome=true then
   if (!((!v1) || (!((r48 x0).getD default))))=true→(r16 x1 0 200).isSome=true then
    if (((!v1) || (!((r48 x0).getD default))) || (!((r16 x1 0 200).getD default)))=true then
     some 2
     else some 0
    else none
   else none
@[go_sem] def T13:=qT78 qu3 false r13
@[go_sem] def tb13 (k:Nat):=lk [(16,T16.sp),(48,T48.sp)] k
theorem f13:FnFact Tryz.prog 13 T13.sp:=by
 refine vm (tb:=tb13) (.cons f16 (.cons f48 .nil)) Tryz.func13 Tryz.ntmps13 fun ⟨a0,x2,x0,x1⟩ r hr stop S=> ?_
 rw [uq4,r13] at hr
 refine S.gx [] ?_
 obtain ⟨v1,hv1,hr⟩:=of_bind0 hr
 obtain ⟨hg2,hr⟩:=of_guard0 hr
 obtain ⟨hg3,hr⟩:=of_guard0 hr
 try simp only [hv1,oG,oI,true_and,and_assoc]
 repeat (first | refine gG hg2 ?_ | refine gG hg3 ?_ | refine gA ?_ | refine gB ?_)
 exact D0 hr
def r52 (a0 a1:Int):Option (Int):=
 if a1≠0 then
  if a1≠0 then
   if (decide ((a0.tmod a1)<0))=true then
    some (IntKind.i64.wrap ((IntKind.i64.wrap (a0.tdiv a1)) - 1))
    else some (IntKind.i64.wrap (a0.tdiv a1))
   else none
  else none
@[go_sem] def T52:=qT7 qu3 false r52
theorem f52:FnFact Tryz.prog 52 T52.sp:=by
 refine vm .nil Tryz.func52 Tryz.ntmps52 fun ⟨a0,a1⟩ r hr stop S=> ?_
 rw [uq2,r52] at hr
 refine S.gx [] ?_
 exact D0 hr
def b59_1 (x0:L_II) (a1 a2:Int):Bd ((List (Int))×Int) L_I:=fun s1=>
 if (decide (s1.2<(x0.length:Int)))=true then
  if 0≤s1.2∧s1.2<(x0.length:Int) then
   if 0≤s1.2∧s1.2<(x0.length:Int) then
    bindC (r52 (IntKind.i64.wrap (((x0.getD s1.2.toNat default).1)+((x0.getD s1.2.toNat default).2))) 2) fun v1=>
     if (decide (a2<0))=true then
      if 0≤s1.2∧s1.2<(x0.length:Int) then
       if (decide (a2>0))=true then
        if 0≤s1.2∧s1.2<(x0.length:Int) then
         bindC (r52 (IntKind.i64.wrap (a1*((x0.getD s1.2.toNat default).2))) 1000) fun v2=>
          if (s1.1.length+1)*8≤140737488355328∧s1.1.length+1≤9223372036854775807 then
           .next (s1.1++[v2],IntKind.i64.wrap (s1.2+1))
           else .out none
         else .out none
        else bindC (r52 (IntKind.i64.wrap (a1*((x0.getD s1.2.toNat default).1))) 1000) fun v5=>
         if (s1.1.length+1)*8≤140737488355328∧s1.1.length+1≤9223372036854775807 then
          .next (s1.1++[v5],IntKind.i64.wrap (s1.2+1))
          else .out none
       else .out none
      else if (decide (a2>0))=true then
       if 0≤s1.2∧s1.2<(x0.length:Int) then
        bindC (r52 (IntKind.i64.wrap (a1*((x0.getD s1.2.toNat default).2))) 1000) fun v8=>
         if (s1.1.length+1)*8≤140737488355328∧s1.1.length+1≤9223372036854775807 then
          .next (s1.1++[v8],IntKind.i64.wrap (s1.2+1))
          else .out none
        else .out none
       else bindC (r52 (IntKind.i64.wrap (a1*v1)) 1000) fun v11=>
        if (s1.1.length+1)*8≤140737488355328∧s1.1.length+1≤9223372036854775807 then
         .next (s1.1++[v11],IntKind.i64.wrap (s1.2+1))
         else .out none
    else .out none
   else .out none
  else .out (some s1.1)
def r59 (x1 x2:Int) (x3:L_II) (x4:L_LIIE) (x5 x6:L_I) (x0:L_II) (x7 x8 a1 a2:Int):Option (L_I):=
 iterC (b59_1 x0 a1 a2) 1000000000 ([],0)
@[go_sem] def T59:=qT24 qu39 false r59
@[go_sem] def tb59 (k:Nat):=lk [(52,T52.sp)] k
theorem f59:FnFact Tryz.prog 59 T59.sp:=by
 refine vm (tb:=tb59) (.cons f52 .nil) Tryz.func59 Tryz.ntmps59 fun ⟨x1,x2,x3,x4,x5,x6,x0,x7,x8,a1,a2⟩ r hr stop S=> ?_
 rw [uq11,r59] at hr
 refine S.gx [4,9] ?_
 refine gr ?_
 refine S.own0 7 1000700 1 rfl rfl ?_
 refine S.sees [1,2,3,7,8] [(3,3)] [(1000700,1000700)] ?_ (Stop.iter S (fun s1=>⟨[(1,.c (.d (.int .i64 a1))),(2,.c (.d (.int .i64 a2))),(3,.c (.ref 3 0)),(7,.c (.own 1000700)),(8,.c (.d (.int .i64 s1.2)))],[(3,[.d (.int .i64 x1),.d (.int .i64 x2),.d (encF 2 d_II x3),.d (encF 1 d_LIIE x4),.d (encF 1 d_I x5),.d (encF 1 d_I x6),.d (encF 2 d_II x0),.d (.int .i64 x7),.d (.int .i64 x8)])],[(1000700,.owned (encF 1 d_I s1.1))]⟩) (b59_1 x0 a1 a2) (fun q=>q=r) hr rfl ?_)
 ·exact lf
 ·intro s1 hr
  unfold b59_1 at hr
  refine S.gx [4,9] ?_
  refine gr ?_
  refine iW1 hr (fun hc hr=> ?_) fun hc hr=>D0 hr
  obtain ⟨hg13,hr⟩:=of_guard1 hr
  obtain ⟨hg14,hr⟩:=of_guard1 hr
  obtain ⟨v1,hv1,hr⟩:=of_bind1 hr
  refine gb hv1 ?_
  refine iW1 hr (fun hc hr=> ?_) fun hc hr=> ?_
  ·obtain ⟨hg7,hr⟩:=of_guard1 hr
   refine gr ?_
   refine iW1 hr (fun hc hr=> ?_) fun hc hr=> ?_
   ·refine gr ?_
    refine S.prune [1,2,3,7,8] ?_
    refine S.gx [4] ?_
    obtain ⟨hg4,hr⟩:=of_guard1 hr
    refine gr ?_
    obtain ⟨v2,hv2,hr⟩:=of_bind1 hr
    obtain ⟨hg3,hr⟩:=of_guard1 hr
    refine gb hv2 ?_
    refine S.prune [1,2,3,7,8] ?_
    refine S.gx [9] ?_
    exact D1 (S.ss [1,2,3,7,8] [(3,3)] [(53,1000700)]) hr
   ·obtain ⟨v5,hv5,hr⟩:=of_bind1 hr
    obtain ⟨hg6,hr⟩:=of_guard1 hr
    refine gb hv5 ?_
    refine S.prune [1,2,3,7,8] ?_
    refine S.gx [9] ?_
    exact D1 (S.ss [1,2,3,7,8] [(3,3)] [(53,1000700)]) hr
  ·refine gr ?_
   refine iW1 hr (fun hc hr=> ?_) fun hc hr=> ?_
   ·refine gr ?_
    refine S.prune [1,2,3,7,8] ?_
    refine S.gx [4] ?_
    obtain ⟨hg10,hr⟩:=of_guard1 hr
    refine gr ?_
    obtain ⟨v8,hv8,hr⟩:=of_bind1 hr
    obtain ⟨hg9,hr⟩:=of_guard1 hr
    refine gb hv8 ?_
    refine S.prune [1,2,3,7,8] ?_
    refine S.gx [9] ?_
    exact D1 (S.ss [1,2,3,7,8] [(3,3)] [(53,1000700)]) hr
   ·obtain ⟨v11,hv11,hr⟩:=of_bind1 hr
    obtain ⟨hg12,hr⟩:=of_guard1 hr
    refine gb hv11 ?_
    refine S.prune [1,2,3,7,8] ?_
    refine S.gx [9] ?_
    exact D1 (S.ss [1,2,3,7,8] [(3,3)] [(53,1000700)]) hr
def b18_1 (x0:L_II) (a1:Int):Bd Int (Int×Int):=fun s1=>
 if 0≤s1∧s1<(x0.length:Int) then
  if (decide (((x0.getD s1.toNat default).1)<a1))=true then
   .next (IntKind.i64.wrap (s1+1))
   else .out (if 0≤IntKind.i64.wrap (s1 - 1)∧IntKind.i64.wrap (s1 - 1)<(x0.length:Int) then
    if 0≤s1∧s1<(x0.length:Int) then
     some (IntKind.i64.wrap ((IntKind.i64.wrap (((x0.getD (IntKind.i64.wrap (s1 - 1)).toNat default).2)*(IntKind.i64.wrap (((x0.getD s1.toNat default).1) - ((x0.getD (IntKind.i64.wrap (s1 - 1)).toNat default).1)))))+(IntKind.i64.wrap ((IntKind.i64.wrap (((x0.getD s1.toNat default).2) - ((x0.getD (IntKind.i64.wrap (s1 - 1)).toNat default).2)))*(IntKind.i64.wrap (a1 - ((x0.getD (IntKind.i64.wrap (s1 - 1)).toNat default).1)))))),IntKind.i64.wrap (((x0.getD s1.toNat default).1) - ((x0.getD (IntKind.i64.wrap (s1 - 1)).toNat default).1)))
     else none
    else none)
  else .out none
def r18 (x1 x2:Int) (x0:L_II) (x3:L_LIIE) (a1:Int):Option (Int×Int):=
 iterC (b18_1 x0 a1) 1000000000 1
@[go_sem] def T18:=qT23 qu4 false r18
theorem f18:FnFact Tryz.prog 18 T18.sp:=by
 refine vm .nil Tryz.func18 Tryz.ntmps18 fun ⟨x1,x2,x0,x3,a1⟩ r hr stop S=> ?_
 rw [uq5,r18] at hr
 refine S.gx [] ?_
 refine gr ?_
 refine S.sees [1,2,6] [(2,2)] [] ?_ (Stop.iter S (fun s1=>⟨[(1,.c (.d (.int .i64 a1))),(2,.c (.ref 2 0)),(6,.c (.d (.int .i64 s1)))],[(2,[.d (.int .i64 x1),.d (.int .i64 x2),.d (encF 2 d_II x0),.d (encF 1 d_LIIE x3)])],[]⟩) (b18_1 x0 a1) (fun q=>q=r) hr rfl ?_)
 ·exact lf
 ·intro s1 hr
  unfold b18_1 at hr
  refine S.gx [] ?_
  exact D1 (S.ss [1,2,6] [(2,2)] []) hr
def r159 (x1 x0:Int) (x2:L_II) (x3:L_LIIE) (a1 a2:Int):Option (Int×Int):=
 (r18 x1 x0 x2 x3 a1).bind fun v1=>
  (r18 x1 x0 x2 x3 a2).bind fun v2=>
   (r52 (IntKind.i64.wrap (x0*(IntKind.i64.wrap ((IntKind.i64.wrap (v1.1*v2.2)) - (IntKind.i64.wrap (v2.1*v1.2)))))) (IntKind.i64.wrap ((IntKind.i64.wrap (1000*v1.2))*v2.2))).bind fun v3=>
    some (IntKind.i64.wrap (a1 - v3),IntKind.i64.wrap (a2+v3))
@[go_sem] def T159:=qT79 qu4 false r159
@[go_sem] def tb159 (k:Nat):=lk [(18,T18.sp),(52,T52.sp)] k
theorem f159:FnFact Tryz.prog 159 T159.sp:=by
 refine vm (tb:=tb159) (.cons f18 (.cons f52 .nil)) Tryz.func159 Tryz.ntmps159 fun ⟨x1,x0,x2,x3,a1,a2⟩ r hr stop S=> ?_
 rw [uq6,r159] at hr
 refine S.gx [4] ?_
 obtain ⟨v1,hv1,hr⟩:=of_bind0 hr
 obtain ⟨v2,hv2,hr⟩:=of_bind0 hr
 obtain ⟨v3,hv3,hr⟩:=of_bind0 hr
 refine gb hv1 ?_
 refine gb hv2 ?_
 refine gb hv3 ?_
 refine S.prune [1,2,12] ?_
 refine S.gx [] ?_
 exact D0 hr
def b111_2 (x0 x1:Int) (x2:L_II) (x3:L_LIIE) (s1:Int×(List (Int))):Bd (Int×(List (Int))) (Ctl (Int×(List (Int))) (L_I)):=fun s2=>
 if (decide ((IntKind.i64.wrap (s2.1+1))<(s2.2.length:Int)))=true then
  if 0≤s2.1∧s2.1<(s2.2.length:Int) then
   if 0≤IntKind.i64.wrap (s2.1+1)∧IntKind.i64.wrap (s2.1+1)<(s2.2.length:Int) then
    bindC (r159 x0 x1 x2 x3 (s2.2.getD s2.1.toNat default) (s2.2.getD (IntKind.i64.wrap (s2.1+1)).toNat default)) fun v2=>
     if 0≤s2.1∧s2.1<(s2.2.length:Int) then
      if 0≤IntKind.i64.wrap (s2.1+1)∧IntKind.i64.wrap (s2.1+1)<(s2.2.length:Int) then
       .next (IntKind.i64.wrap (s2.1+2),(s2.2.set s2.1.toNat v2.1).set (IntKind.i64.wrap (s2.1+1)).toNat v2.2)
       else .out none
      else .out none
    else .out none
   else .out none
  else .out (some (.next (IntKind.i64.wrap (s1.1+1),s2.2)))
def b111_1 (x0 x1:Int) (x2:L_II) (x3:L_LIIE):Bd (Int×(List (Int))) L_I:=fun s1=>
 if (decide (s1.1<2))=true then
  (iterC (b111_2 x0 x1 x2 x3 s1) 1000000000 (s1.1,s1.2)).getD (.out none)
  else .out (some s1.2)
def r111 (x0 x1:Int) (x2:L_II) (x3:L_LIIE) (a1:L_I):Option (L_I):=
 (r79 a1).bind fun v1=>
  iterC (b111_1 x0 x1 x2 x3) 1000000000 (0,v1)
@[go_sem] def T111:=qT27 qu39 false r111
@[go_sem] def tb111 (k:Nat):=lk [(79,T79.sp),(159,T159.sp)] k
theorem f111:FnFact Tryz.prog 111 T111.sp:=by
 refine vm (tb:=tb111) (.cons f79 (.cons f159 .nil)) Tryz.func111 Tryz.ntmps111 fun ⟨x0,x1,x2,x3,a1⟩ r hr stop S=> ?_
 rw [uq5,r111] at hr
 refine S.gx [] ?_
 obtain ⟨v1,hv1,hr⟩:=of_bind0 hr
 refine gb hv1 ?_
 refine S.sees [2,5,6] [(2,2)] [(9,9)] ?_ (Stop.iter S (fun s1=>⟨[(2,.c (.ref 2 0)),(5,.c (.own 9)),(6,.c (.d (.int .i64 s1.1)))],[(2,[.d (.int .i64 x0),.d (.int .i64 x1),.d (encF 2 d_II x2),.d (encF 1 d_LIIE x3)])],[(9,.owned (encF 1 d_I s1.2))]⟩) (b111_1 x0 x1 x2 x3) (fun q=>q=r) hr rfl ?_)
 ·exact lf
 ·intro s1 hr
  unfold b111_1 at hr
  refine S.gx [] ?_
  refine gr ?_
  refine iW1 hr (fun hc hr=> ?_) fun hc hr=>D0 hr
  refine gr ?_
  obtain ⟨q2,hq,hr⟩:=of_iter1 hr
  refine S.sees [2,5,6,7] [(2,2)] [(9,9)] ?_ (Stop.iter S (fun s2=>⟨[(2,.c (.ref 2 0)),(5,.c (.own 9)),(6,.c (.d (.int .i64 s1.1))),(7,.c (.d (.int .i64 s2.1)))],[(2,[.d (.int .i64 x0),.d (.int .i64 x1),.d (encF 2 d_II x2),.d (encF 1 d_LIIE x3)])],[(9,.owned (encF 1 d_I s2.2))]⟩) (b111_2 x0 x1 x2 x3 s1) _ hq hr ?_)
  ·exact lf
  ·intro s2 hr
   unfold b111_2 at hr
   refine S.gx [] ?_
   refine gr ?_
   refine iW1 hr (fun hc hr=>D1 (S.ss [2,5,6,7] [(2,2)] [(9,9)]) hr) fun hc hr=> ?_
   refine gr ?_
   replace hr:=goodC_out hr
   exact D1 (S.ss [2,5,6] [(2,2)] [(9,9)]) hr
def r112 (x1 x2:Int) (x3:L_II) (x0:L_LIIE) (a1 a2:Int):Option (Int):=
 (r18 x1 x2 x3 x0 a2).bind fun v1=>
  if 0≤a1∧a1<(x0.length:Int) then
   (r160 (x0.getD a1.toNat default) v1.1 v1.2).bind fun v2=>
    (r52 v2.1 v2.2).bind fun v3=>
     some v3
   else none
@[go_sem] def T112:=qT79 qu3 false r112
@[go_sem] def tb112 (k:Nat):=lk [(18,T18.sp),(52,T52.sp),(160,T160.sp)] k
theorem f112:FnFact Tryz.prog 112 T112.sp:=by
 refine vm (tb:=tb112) (.cons f18 (.cons f52 (.cons f160 .nil))) Tryz.func112 Tryz.ntmps112 fun ⟨x1,x2,x3,x0,a1,a2⟩ r hr stop S=> ?_
 rw [uq6,r112] at hr
 refine S.gx [] ?_
 exact D0 hr
def b80_2 (x0 x1:Int) (x2:L_II) (x3:L_LIIE) (v2:Int) (s1:Int×(List (Int))):Bd Int (L_I×Int×Bool):=fun s2=>
 if (decide (s2<(s1.2.length:Int)))=true then
  if 0≤s2∧s2<(s1.2.length:Int) then
   bindC (r113 x0 x1 x2 x3 (s1.2.getD s2.toNat default)) fun v6=>
    if (!v6)=true then
     .out (some ([],0,false))
     else .next (IntKind.i64.wrap (s2+1))
   else .out none
  else .out (some (s1.2,v2,true))
def b80_1 (x0 x1:Int) (x2:L_II) (x3:L_LIIE) (a2:L_I) (v2:Int):Bd (Int×(List (Int))) (L_I×Int×Bool):=fun s1=>
 if (decide (s1.1<(s1.2.length:Int)))=true then
  if 0≤s1.1∧s1.1<(s1.2.length:Int) then
   if 0≤s1.1∧s1.1<(a2.length:Int) then
    if 0≤s1.1∧s1.1<(s1.2.length:Int) then
     .next (IntKind.i64.wrap (s1.1+1),s1.2.set s1.1.toNat (IntKind.i64.wrap ((s1.2.getD s1.1.toNat default)+(a2.getD s1.1.toNat default))))
     else .out none
    else .out none
   else .out none
  else .out (iterC (b80_2 x0 x1 x2 x3 v2 s1) 1000000000 0)
def r80 (x0 x1:Int) (x2:L_II) (x3:L_LIIE) (a1 a2:L_I) (a3:Int):Option (L_I×Int×Bool):=
 (r111 x0 x1 x2 x3 a1).bind fun v1=>
  if 0≤0∧0<(v1.length:Int) then
   (r112 x0 x1 x2 x3 a3 (v1.getD 0 default)).bind fun v2=>
    if 0≤0∧0<(v1.length:Int) then
     if 0≤0∧0<(v1.length:Int) then
      iterC (b80_1 x0 x1 x2 x3 a2 v2) 1000000000 (0,v1.set 0 (IntKind.i64.wrap ((v1.getD 0 default) - v2)))
      else none
     else none
   else none
@[go_sem] def T80:=qT80 qu42 false r80
@[go_sem] def tb80 (k:Nat):=lk [(111,T111.sp),(112,T112.sp),(113,T113.sp)] k
theorem f80:FnFact Tryz.prog 80 T80.sp:=by
 refine vm (tb:=tb80) (.cons f111 (.cons f112 (.cons f113 .nil))) Tryz.func80 Tryz.ntmps80 fun ⟨x0,x1,x2,x3,a1,a2,a3⟩ r hr stop S=> ?_
 rw [uq7,r80] at hr
 refine S.gx [] ?_
 obtain ⟨v1,hv1,hr⟩:=of_bind0 hr
 obtain ⟨hg8,hr⟩:=of_guard0 hr
 obtain ⟨v2,hv2,hr⟩:=of_bind0 hr
 obtain ⟨hg9,hr⟩:=of_guard0 hr
 obtain ⟨hg10,hr⟩:=of_guard0 hr
 refine gb hv1 ?_
 refine gb hv2 ?_
 refine S.sees [2,4,11,12,13] [(4,4)] [(17,17)] ?_ (Stop.iter S (fun s1=>⟨[(2,.c (.d (encF 1 d_I a2))),(4,.c (.ref 4 0)),(11,.c (.own 17)),(12,.c (.d (.int .i64 v2))),(13,.c (.d (.int .i64 s1.1)))],[(4,[.d (.int .i64 x0),.d (.int .i64 x1),.d (encF 2 d_II x2),.d (encF 1 d_LIIE x3)])],[(17,.owned (encF 1 d_I s1.2))]⟩) (b80_1 x0 x1 x2 x3 a2 v2) (fun q=>q=r) hr rfl ?_)
 ·exact lf
 ·intro s1 hr
  unfold b80_1 at hr
  refine S.gx [] ?_
  refine gr ?_
  refine iW1 hr (fun hc hr=>D1 (S.ss [2,4,11,12,13] [(4,4)] [(17,17)]) hr) fun hc hr=> ?_
  refine gr ?_
  have hr:=of_out0 hr
  refine gr ?_
  refine S.sees [4,11,12,14] [(4,4)] [(17,17)] ?_ (Stop.iter S (fun s2=>⟨[(4,.c (.ref 4 0)),(11,.c (.own 17)),(12,.c (.d (.int .i64 v2))),(14,.c (.d (.int .i64 s2)))],[(4,[.d (.int .i64 x0),.d (.int .i64 x1),.d (encF 2 d_II x2),.d (encF 1 d_LIIE x3)])],[(17,.owned (encF 1 d_I s1.2))]⟩) (b80_2 x0 x1 x2 x3 v2 s1) (fun q=>q=r) hr rfl ?_)
  ·exact lf
  ·intro s2 hr
   unfold b80_2 at hr
   refine S.gx [] ?_
   exact D1 (S.ss [4,11,12,14] [(4,4)] [(17,17)]) hr
def r49 (x0 x1:Int) (x2:L_II) (x3:L_LIIE) (x4 x5:L_I) (x6:L_II) (x7 x8:Int) (a1:L_I) (x9 x10:Int):Option (L_I×Bool):=
 (r59 x0 x1 x2 x3 x4 x5 x6 x7 x8 x9 0).bind fun v1=>
  (r80 x0 x1 x2 x3 a1 v1 x10).bind fun v2=>
   some (v2.1,v2.2.2)
@[go_sem] def T49:=qT81 qu43 false r49
@[go_sem] def tb49 (k:Nat):=lk [(59,T59.sp),(80,T80.sp)] k
theorem f49:FnFact Tryz.prog 49 T49.sp:=by
 refine vm (tb:=tb49) (.cons f59 (.cons f80 .nil)) Tryz.func49 Tryz.ntmps49 fun ⟨x0,x1,x2,x3,x4,x5,x6,x7,x8,a1,x9,x10⟩ r hr stop S=> ?_
 rw [uq12,r49] at hr
 refine S.gx [] ?_
 exact D0 hr
end Go.Proofs.YtofkgmldcjagmaaGreatDoor

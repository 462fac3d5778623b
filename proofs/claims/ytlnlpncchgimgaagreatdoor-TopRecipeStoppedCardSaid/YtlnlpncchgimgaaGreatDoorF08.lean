/- Contracts of functions, written by wip/dec. -/
import Derived.Test.YtlnlpncchgimgaaGreatDoorF00
import Derived.Test.YtlnlpncchgimgaaGreatDoorF02
import Derived.Test.YtlnlpncchgimgaaGreatDoorF03
import Derived.Test.YtlnlpncchgimgaaGreatDoorF04
import Derived.Test.YtlnlpncchgimgaaGreatDoorF06
import Derived.Test.YtlnlpncchgimgaaGreatDoorF07
set_option linter.unusedVariables false
set_option linter.unusedSimpArgs false
set_option linter.constructorNameAsVariable false
set_option maxHeartbeats 4000000
set_option maxRecDepth 20000
namespace Go.Proofs.YtlnlpncchgimgaaGreatDoor
open Go.Abs
section
variable {β:Type} [Inhabited β] (u:β→List RV) (al:Bool)
def qw47 (a0:ByteArray):List Arg:=[.c (.str a0)]
def qd47:List Arg→ByteArray
 | [.c c0]=>dStr c0
 | _=>default
def qT47 (r:ByteArray→Option β):=mkT (u1 qw47) qd47 (u1 r) u al
attribute [go_sem] qw47 qd47 qT47
def qw48 (a0 a1:L_I):List Arg:=[.agg [encF 1 d_I a0,encF 1 d_I a1]]
def qd48:List Arg→L_I×L_I
 | [.agg [c0,c1]]=>(decF g_I c0,decF g_I c1)
 | _=>default
def qT48 (r:L_I→L_I→Option β):=mkT (u2 qw48) qd48 (u2 r) u al
attribute [go_sem] qw48 qd48 qT48
def qw49 (a0 a1:Int) (a2:L_II) (a3:L_LIIE) (a4 a5:L_I) (a6:L_II) (a7 a8:Int) (a9:L_II) (a10 a11 a12:Int):List Arg:=[.agg [.int .i64 a0,.int .i64 a1,encF 2 d_II a2,encF 1 d_LIIE a3,encF 1 d_I a4,encF 1 d_I a5,encF 2 d_II a6,.int .i64 a7,.int .i64 a8],.c (encF 2 d_II a9),.agg [.int .i64 a10,.int .i64 a11,.int .i64 a12]]
def qd49:List Arg→Int×Int×L_II×L_LIIE×L_I×L_I×L_II×Int×Int×L_II×Int×Int×Int
 | [.agg [c0,c1,c2,c3,c4,c5,c6,c7,c8],.c c9,.agg [c10,c11,c12]]=>(dInt c0,dInt c1,decF g_II c2,decF g_LIIE c3,decF g_I c4,decF g_I c5,decF g_II c6,dInt c7,dInt c8,decF g_II c9,dInt c10,dInt c11,dInt c12)
 | _=>default
def qT49 (r:Int→Int→L_II→L_LIIE→L_I→L_I→L_II→Int→Int→L_II→Int→Int→Int→Option β):=mkT (u13 qw49) qd49 (u13 r) u al
attribute [go_sem] qw49 qd49 qT49
def qw50 (a0 a1:Int) (a2:L_II) (a3:L_LIIE) (a4:L_I) (a5:Int):List Arg:=[.agg [.int .i64 a0,.int .i64 a1,encF 2 d_II a2,encF 1 d_LIIE a3],.agg [encF 1 d_I a4,.int .i64 a5]]
def qd50:List Arg→Int×Int×L_II×L_LIIE×L_I×Int
 | [.agg [c0,c1,c2,c3],.agg [c4,c5]]=>(dInt c0,dInt c1,decF g_II c2,decF g_LIIE c3,decF g_I c4,dInt c5)
 | _=>default
def qT50 (r:Int→Int→L_II→L_LIIE→L_I→Int→Option β):=mkT (u6 qw50) qd50 (u6 r) u al
attribute [go_sem] qw50 qd50 qT50
def qu23 (v:Int×Bool):List RV:=[.c (.d (.int .i64 v.1)),.c (.d (.err v.2))]
attribute [go_sem] qu23
def qu24 (v:Int×Int×L_II×L_LIIE):List RV:=[.agg [.d (.int .i64 v.1),.d (.int .i64 v.2.1),.own (encF 2 d_II v.2.2.1),.own (encF 1 d_LIIE v.2.2.2)]]
attribute [go_sem] qu24
def qu25 (v:L_I):List RV:=[.c (.own (encF 1 d_I v))]
attribute [go_sem] qu25
def qu26 (v:L_I×L_I):List RV:=[.agg [.own (encF 1 d_I v.1),.own (encF 1 d_I v.2)]]
attribute [go_sem] qu26
def qu27 (v:L_II×Bool×Int):List RV:=[.c (.own (encF 2 d_II v.1)),.c (.d (.bool v.2.1)),.c (.d (.int .i64 v.2.2))]
attribute [go_sem] qu27
end
def r62 (a0:ByteArray):Option (Int×Bool):=
 atoiV a0
def T62:=qT47 qu23 false r62
attribute [go_sem] T62
theorem f62:FnFact Tryz.prog 62 T62.sp:=⟨⟨Tryz.f62,Tryz.func62,by decide,rfl⟩,lib_Atoi (fun _=>rfl) (fun _=>rfl) (fun _=>rfl) rfl⟩
def r33 (a0:ByteArray):Option (Int×Bool):=
 (r62 a0).bind fun v1=>
  if ((!v1.2) && (decide (v1.1≥0)))=true→(r34 v1.1).isSome=true then
   some (v1.1,(((!v1.2) && (decide (v1.1≥0))) && (decide (((r34 v1.1).getD default)=a0))) && (decide ((a0.size:Int)≤5)))
   else none
def T33:=qT47 qu6 false r33
attribute [go_sem] T33
def tb33:Fns:=lk [(34,T34.sp),(62,T62.sp)]
theorem tb33_ok:FnsOk Tryz.prog tb33:= .cons f34 (.cons f62 .nil)
theorem tk33:tb33 34=some T34.sp∧tb33 62=some T62.sp:=⟨rfl,rfl⟩
section
attribute [local go_sem] tk33 Tryz.results33
theorem f33:FnFact Tryz.prog 33 T33.sp:=by
 refine valid_m ty_ok tb33_ok Tryz.func33 rfl Tryz.ntmps33 fun a0 r hr=>⟨nL rfl,fun stop S=> ?_⟩
 replace hr:r33 a0=some r:=hr
 unfold r33 at hr
 refine S.gx [] ?_
 obtain ⟨v1,hv1,hr⟩:=of_bind0 hr
 obtain ⟨hg2,hr⟩:=of_guard0 hr
 try simp only [hv1,oG,oI,true_and,and_assoc]
 repeat (first | refine gG hg2 ?_ | refine gA ?_ | refine gB ?_)
 exact D0 hr
end
def b9_1 (a0:ByteArray):Bd (ByteArray×(List (Int×Int))) (L_II×Int):=fun s1=>
 bindC (r97 s1.1 (⟨#[59]⟩:ByteArray)) fun v1=>
  if (decide (v1<0))=true then
   .out (if (decide (a0=(⟨#[]⟩:ByteArray)))=true then
    some (s1.2,0)
    else (r32 s1.1 (⟨#[32]⟩:ByteArray)).bind fun v2=>
     (r33 v2.1).bind fun v3=>
      (r33 v2.2.1).bind fun v4=>
       if (((!v2.2.2) || (!v3.2)) || (!v4.2))=true then
        some ([],7)
        else if (s1.2.length+1)*16≤140737488355328∧s1.2.length+1≤9223372036854775807 then
         some (s1.2++[(v3.1,v4.1)],0)
         else none)
   else if 0≤0∧0≤IntKind.i64.wrap (v1+0)∧IntKind.i64.wrap (v1+0)≤(s1.1.size:Int) then
    if (decide (a0=(⟨#[]⟩:ByteArray)))=true then
     .out (some (s1.2,0))
     else bindC (r32 (s1.1.extract 0 (IntKind.i64.wrap (v1+0)).toNat) (⟨#[32]⟩:ByteArray)) fun v6=>
      bindC (r33 v6.1) fun v7=>
       bindC (r33 v6.2.1) fun v8=>
        if (((!v6.2.2) || (!v7.2)) || (!v8.2))=true then
         .out (some ([],7))
         else if (s1.2.length+1)*16≤140737488355328∧s1.2.length+1≤9223372036854775807 then
          if 0≤IntKind.i64.wrap (v1+1)∧IntKind.i64.wrap (v1+1)≤(s1.1.size:Int)∧(s1.1.size:Int)≤(s1.1.size:Int) then
           .next (s1.1.extract (IntKind.i64.wrap (v1+1)).toNat s1.1.size,s1.2++[(v7.1,v8.1)])
           else .out none
          else .out none
    else .out none
def r9 (a0:ByteArray):Option (L_II×Int):=
 if (decide ((a0.size:Int)>60000))=true then
  some ([],8)
  else iterC (b9_1 a0) 1000000000 (a0,[])
def T9:=qT47 qu16 false r9
attribute [go_sem] T9
def tb9:Fns:=lk [(32,T32.sp),(33,T33.sp),(97,T97.sp)]
theorem tb9_ok:FnsOk Tryz.prog tb9:= .cons f32 (.cons f33 (.cons f97 .nil))
theorem tk9:tb9 32=some T32.sp∧tb9 33=some T33.sp∧tb9 97=some T97.sp:=⟨rfl,rfl,rfl⟩
section
attribute [local go_sem] tk9 Tryz.results9 Tryz.results31 Tryz.results60 Tryz.results95
theorem f9:FnFact Tryz.prog 9 T9.sp:=by
 refine valid_m ty_ok tb9_ok Tryz.func9 rfl Tryz.ntmps9 fun a0 r hr=>⟨nL rfl,fun stop S=> ?_⟩
 replace hr:r9 a0=some r:=hr
 unfold r9 at hr
 refine S.gx [4,11,12] ?_
 refine gr ?_
 refine iW hr (fun hc hr=>D0 hr) fun hc hr=> ?_
 refine gr ?_
 refine S.inl 1 [1,2,3,4] [] Tryz.func31 (by decide) rfl Tryz.ntmps31 (fun cx e=>drawn_ok ty_ok tb9_ok cx e) (some 17) rfl rfl rfl rfl (nL rfl) (nL rfl) ?_
 refine gs ?_
 refine gr ?_
 intro stop1 S1
 refine S1.gx [1] ?_
 refine gr ?_
 refine S1.inl 2 [] [] Tryz.func60 (by decide) rfl Tryz.ntmps60 (fun cx e=>drawn_ok ty_ok tb9_ok cx e) (some 7) rfl rfl rfl rfl (nL rfl) (nL rfl) ?_
 refine gs ?_
 refine gr ?_
 intro stop2 S2
 refine S2.gx [] ?_
 refine gr ?_
 refine gr ?_
 refine S1.gx [1] ?_
 refine gr ?_
 refine gr ?_
 refine S.gx [4,11,12] ?_
 refine gr ?_
 refine S.range [1,2,3,4] Tryz.func95 (by decide) rfl Tryz.ntmps95 Tryz.results95 (fun cx e=>drawn_ok ty_ok tb9_ok cx e) (fun cx e=>drawn_ok ty_ok tb9_ok cx e) (by decide) rfl rfl (nL rfl) ?_
 intro l1 stop1 stopJ1 S1 SJ1 Y1
 refine S1.gx [3,8,10] ?_
 refine gr ?_
 refine S1.own0b 4 0 2000400 2 rfl rfl (nL rfl) rfl ?_
 refine S1.sees [0,1,2,3] [(100004,100004),(100003,100003),(5,5),(1,1),(2,2),(3,3),(4,4)] [(2000400,2000400)] ?_ (Stop.iter S1 (fun s1=>⟨[(0,.c (.yld l1)),(1,.c (.ref 100004 0)),(2,.c (.ref 100003 0)),(3,.c (.ref 5 0))],[(100004,[.d (.str (⟨#[59]⟩:ByteArray))]),(100003,[.d (.str s1.1)]),(5,[.d (.int .i64 0)]),(1,[.d (.str a0)]),(2,[.nils]),(3,[.d (.int .i64 0)]),(4,[.own 2000400])],[(2000400,.owned (encF 2 d_II s1.2))]⟩) (b9_1 a0) (fun q=>q=r) hr rfl ?_)
 ·exact lf
 ·intro s1 hr
  unfold b9_1 at hr
  refine S1.gx [3,8,10] ?_
  obtain ⟨v1,hv1,hr⟩:=of_bind1 hr
  refine gb hv1 ?_
  refine iW1 hr (fun hc hr=> ?_) fun hc hr=> ?_
  ·refine gr ?_
   have hr:=of_out0 hr
   refine gr ?_
   refine Y1 2 [] (some 51) rfl rfl rfl rfl (nL rfl) (by rfl) ?_
   refine gs ?_
   refine gr ?_
   intro stopA2 SA2
   refine SA2.gx [] ?_
   refine gr ?_
   intro stop2 S2
   refine S2.gx [4,11,12] ?_
   refine gr ?_
   refine iW hr (fun hc hr=> ?_) fun hc hr=> ?_
   ·refine gr ?_
    refine gr ?_
    refine (SJ1 (.exit 0)).gx [3,8,10] ?_
    refine gr ?_
    refine gr ?_
    refine S.gx [4,11,12] ?_
    exact D0 hr
   ·obtain ⟨v2,hv2,hr⟩:=of_bind0 hr
    obtain ⟨v3,hv3,hr⟩:=of_bind0 hr
    obtain ⟨v4,hv4,hr⟩:=of_bind0 hr
    try simp only [hv2,hv3,hv4,Option.getD_some,Option.isSome_some,true_and,and_assoc]
    repeat (first | refine gA ?_ | refine gB ?_)
    refine iW hr (fun hc hr=> ?_) fun hc hr=> ?_
    ·refine gr ?_
     refine S2.prune [2,3] ?_
     refine S2.gx [4,12] ?_
     refine gr ?_
     refine gr ?_
     refine gr ?_
     refine (SJ1 .ret).gx [3,8,10] ?_
     refine gr ?_
     refine gr ?_
     refine S.gx [4,11,12] ?_
     exact D0 hr
    ·refine gr ?_
     refine S2.prune [4,9,11] ?_
     refine S2.gx [4,11] ?_
     obtain ⟨hg5,hr⟩:=of_guard0 hr
     refine gr ?_
     refine gr ?_
     refine gr ?_
     refine S1.gx [3,8,10] ?_
     refine gr ?_
     refine gr ?_
     refine S.gx [4,11,12] ?_
     exact D0 hr
  ·obtain ⟨hg11,hr⟩:=of_guard1 hr
   refine gr ?_
   refine Y1 2 [0,1,2,3,7] (some 41) rfl rfl rfl rfl (nL rfl) (by rfl) ?_
   refine gs ?_
   refine gr ?_
   intro stopA2 SA2
   refine SA2.gx [] ?_
   refine gr ?_
   intro stop2 S2
   refine S2.gx [4,11,12] ?_
   refine gr ?_
   refine iW1 hr (fun hc hr=> ?_) fun hc hr=> ?_
   ·refine gr ?_
    refine gr ?_
    refine (SJ1 (.exit 0)).gx [3,8,10] ?_
    refine gr ?_
    have hr:=of_out0 hr
    refine gr ?_
    refine S.gx [4,11,12] ?_
    exact D0 hr
   ·obtain ⟨v6,hv6,hr⟩:=of_bind1 hr
    obtain ⟨v7,hv7,hr⟩:=of_bind1 hr
    obtain ⟨v8,hv8,hr⟩:=of_bind1 hr
    try simp only [hv6,hv7,hv8,Option.getD_some,Option.isSome_some,true_and,and_assoc]
    repeat (first | refine gA ?_ | refine gB ?_)
    refine iW1 hr (fun hc hr=> ?_) fun hc hr=> ?_
    ·refine gr ?_
     refine S2.prune [2,3] ?_
     refine S2.gx [4,12] ?_
     refine gr ?_
     refine gr ?_
     refine gr ?_
     refine (SJ1 .ret).gx [3,8,10] ?_
     refine gr ?_
     have hr:=of_out0 hr
     refine gr ?_
     refine S.gx [4,11,12] ?_
     exact D0 hr
    ·refine gr ?_
     refine S2.prune [4,9,11] ?_
     refine S2.gx [4,11] ?_
     obtain ⟨hg10,hr⟩:=of_guard1 hr
     refine gr ?_
     refine gr ?_
     refine gr ?_
     refine S1.gx [3,8,10] ?_
     exact D1 (S1.ss [0,1,2,3] [(100004,100004),(100003,100003),(5,5),(1,1),(2,2),(3,3),(4,4)] [(52,2000400)]) hr
end
def b12_1 (a0 a1:L_II):Bd Int Bool:=fun s1=>
 if (decide (s1<(a0.length:Int)))=true then
  if 0≤s1∧s1<(a0.length:Int) then
   if 0≤s1∧s1<(a1.length:Int) then
    if (!(((a0.getD s1.toNat default).1 == (a1.getD s1.toNat default).1) && ((a0.getD s1.toNat default).2 == (a1.getD s1.toNat default).2)))=true then
     .out (some false)
     else .next (IntKind.i64.wrap (s1+1))
    else .out none
   else .out none
  else .out (some true)
def r12 (a0 a1:L_II):Option (Bool):=
 if ((a0.length:Int) != (a1.length:Int))=true then
  some false
  else iterC (b12_1 a0 a1) 1000000000 0
def T12:=qT11 qu2 false r12
attribute [go_sem] T12
def tb12:Fns:=lk []
theorem tb12_ok:FnsOk Tryz.prog tb12:=FnsOk.nil
section
attribute [local go_sem] Tryz.results12
theorem f12:FnFact Tryz.prog 12 T12.sp:=by
 refine valid_m ty_ok tb12_ok Tryz.func12 rfl Tryz.ntmps12 fun ⟨a0,a1⟩ r hr=>⟨nL rfl,fun stop S=> ?_⟩
 replace hr:r12 a0 a1=some r:=hr
 unfold r12 at hr
 refine S.gx [] ?_
 refine gr ?_
 refine iW hr (fun hc hr=>D0 hr) fun hc hr=> ?_
 refine gr ?_
 refine S.sees [0,1,5] [] [] ?_ (Stop.iter S (fun s1=>⟨[(0,.c (.d (encF 2 d_II a0))),(1,.c (.d (encF 2 d_II a1))),(5,.c (.d (.int .i64 s1)))],[],[]⟩) (b12_1 a0 a1) (fun q=>q=r) hr rfl ?_)
 ·exact lf
 ·intro s1 hr
  unfold b12_1 at hr
  refine S.gx [] ?_
  exact D1 (S.ss [0,1,5] [] []) hr
end
def b21_1 (x2 x3:Int) (x1:L_II) (x0:L_LIIE):Bd (Int×(List (L_II))) (Int×Int×L_II×L_LIIE):=fun s1=>
 if (decide (s1.1<(x0.length:Int)))=true then
  if 0≤s1.1∧s1.1<(x0.length:Int) then
   if (0+(x0.getD s1.1.toNat default).length)*16≤140737488355328∧0+(x0.getD s1.1.toNat default).length≤9223372036854775807 then
    if (s1.2.length+1)*24≤140737488355328∧s1.2.length+1≤9223372036854775807 then
     .next (IntKind.i64.wrap (s1.1+1),s1.2++[(x0.getD s1.1.toNat default)])
     else .out none
    else .out none
   else .out none
  else .out (some (x2,x3,x1,s1.2))
def r21 (x2 x3:Int) (x1:L_II) (x0:L_LIIE):Option (Int×Int×L_II×L_LIIE):=
 if (0+x1.length)*16≤140737488355328∧0+x1.length≤9223372036854775807 then
  iterC (b21_1 x2 x3 x1 x0) 1000000000 (0,[])
  else none
def T21:=qT12 qu24 true r21
attribute [go_sem] T21
def tb21:Fns:=lk []
theorem tb21_ok:FnsOk Tryz.prog tb21:=FnsOk.nil
section
attribute [local go_sem] Tryz.results21
theorem f21:FnFact Tryz.prog 21 T21.sp:=by
 refine valid_m ty_ok tb21_ok Tryz.func21 rfl Tryz.ntmps21 fun ⟨x2,x3,x1,x0⟩ r hr=>⟨nL rfl,fun stop S=> ?_⟩
 replace hr:r21 x2 x3 x1 x0=some r:=hr
 unfold r21 at hr
 refine S.gx [] ?_
 obtain ⟨hg4,hr⟩:=of_guard0 hr
 refine gr ?_
 refine S.own0b 3 3 2000303 1 rfl rfl (nL rfl) rfl ?_
 refine S.sees [1,2,3,4] [(1,1),(2,2),(3,3)] [(2000303,2000303),(9,9)] ?_ (Stop.iter S (fun s1=>⟨[(1,.c (.ref 1 0)),(2,.c (.ref 2 0)),(3,.c (.ref 3 0)),(4,.c (.d (.int .i64 s1.1)))],[(1,[.d (.int .i64 x2),.d (.int .i64 x3),.d (encF 2 d_II x1),.d (encF 1 d_LIIE x0)]),(2,[.d (.int .i64 0),.d (.int .i64 0),.nils,.nils]),(3,[.d (.int .i64 x2),.d (.int .i64 x3),.own 9,.own 2000303])],[(2000303,.owned (encF 1 d_LIIE s1.2)),(9,.owned (encF 2 d_II x1))]⟩) (b21_1 x2 x3 x1 x0) (fun q=>q=r) hr rfl ?_)
 ·exact lf
 ·intro s1 hr
  unfold b21_1 at hr
  refine S.gx [] ?_
  exact D1 (S.ss [1,2,3,4] [(1,1),(2,2),(3,3)] [(29,2000303),(9,9)]) hr
end
def r16 (a0:L_I):Option (L_I):=
 if (0+a0.length)*8≤140737488355328∧0+a0.length≤9223372036854775807 then
  some a0
  else none
def T16:=qT3 qu25 false r16
attribute [go_sem] T16
def tb16:Fns:=lk []
theorem tb16_ok:FnsOk Tryz.prog tb16:=FnsOk.nil
section
attribute [local go_sem] Tryz.results16
theorem f16:FnFact Tryz.prog 16 T16.sp:=by
 refine valid_m ty_ok tb16_ok Tryz.func16 rfl Tryz.ntmps16 fun a0 r hr=>⟨nL rfl,fun stop S=> ?_⟩
 replace hr:r16 a0=some r:=hr
 unfold r16 at hr
 refine S.gx [] ?_
 exact D0 hr
end
def r44 (x0 x1:L_I):Option (L_I×L_I):=
 (r16 x0).bind fun v1=>
  (r16 x1).bind fun v2=>
   some (v1,v2)
def T44:=qT48 qu26 false r44
attribute [go_sem] T44
def tb44:Fns:=lk [(16,T16.sp)]
theorem tb44_ok:FnsOk Tryz.prog tb44:= .cons f16 .nil
theorem tk44:tb44 16=some T16.sp:=rfl
section
attribute [local go_sem] tk44 Tryz.results44
theorem f44:FnFact Tryz.prog 44 T44.sp:=by
 refine valid_m ty_ok tb44_ok Tryz.func44 rfl Tryz.ntmps44 fun ⟨x0,x1⟩ r hr=>⟨nL rfl,fun stop S=> ?_⟩
 replace hr:r44 x0 x1=some r:=hr
 unfold r44 at hr
 refine S.gx [] ?_
 exact D0 hr
end
def r45 (a0:L_II):Option (L_II):=
 if (0+a0.length)*16≤140737488355328∧0+a0.length≤9223372036854775807 then
  some a0
  else none
def T45:=qT5 qu5 false r45
attribute [go_sem] T45
def tb45:Fns:=lk []
theorem tb45_ok:FnsOk Tryz.prog tb45:=FnsOk.nil
section
attribute [local go_sem] Tryz.results45
theorem f45:FnFact Tryz.prog 45 T45.sp:=by
 refine valid_m ty_ok tb45_ok Tryz.func45 rfl Tryz.ntmps45 fun a0 r hr=>⟨nL rfl,fun stop S=> ?_⟩
 replace hr:r45 a0=some r:=hr
 unfold r45 at hr
 refine S.gx [] ?_
 exact D0 hr
end
def r14 (x0 x1:Int) (x2:L_II) (x3:L_LIIE) (x4 x5:L_I) (x6:L_II) (x7 x8:Int):Option (Int×Int×L_II×L_LIIE×L_I×L_I×L_II×Int×Int):=
 (r21 x0 x1 x2 x3).bind fun v1=>
  (r44 x4 x5).bind fun v2=>
   (r45 x6).bind fun v3=>
    some (v1.1,v1.2.1,v1.2.2.1,v1.2.2.2,v2.1,v2.2,v3,x7,x8)
def T14:=qT19 qu0 true r14
attribute [go_sem] T14
def tb14:Fns:=lk [(21,T21.sp),(44,T44.sp),(45,T45.sp)]
theorem tb14_ok:FnsOk Tryz.prog tb14:= .cons f21 (.cons f44 (.cons f45 .nil))
theorem tk14:tb14 21=some T21.sp∧tb14 44=some T44.sp∧tb14 45=some T45.sp:=⟨rfl,rfl,rfl⟩
section
attribute [local go_sem] tk14 Tryz.results14
theorem f14:FnFact Tryz.prog 14 T14.sp:=by
 refine valid_m ty_ok tb14_ok Tryz.func14 rfl Tryz.ntmps14 fun ⟨x0,x1,x2,x3,x4,x5,x6,x7,x8⟩ r hr=>⟨nL rfl,fun stop S=> ?_⟩
 replace hr:r14 x0 x1 x2 x3 x4 x5 x6 x7 x8=some r:=hr
 unfold r14 at hr
 refine S.gx [] ?_
 exact D0 hr
end
def b67_1 (x0 x1:Int) (x2:L_II) (x3:L_LIIE) (x4 x5:L_I) (x6:L_II) (x7 x8:Int) (a1:L_II):Bd (Int×Int) Int:=fun s1=>
 if (decide (s1.2<(a1.length:Int)))=true then
  if 0≤s1.2∧s1.2<(a1.length:Int) then
   bindC (r37 ((a1.getD s1.2.toNat default).1) 0 10000) fun v2=>
    bindC (r39 v2 2) fun v3=>
     bindC (r43 x0 x1 x2 x3 x4 x5 x6 x7 x8) fun v4=>
      bindC (r37 ((a1.getD s1.2.toNat default).2) 0 v4) fun v5=>
       bindC (r39 v5 6) fun v6=>
        bindC (r38 [s1.1,v3,v6]) fun v7=>
         .next (v7,IntKind.i64.wrap (s1.2+1))
   else .out none
  else .out (some s1.1)
def r67 (x0 x1:Int) (x2:L_II) (x3:L_LIIE) (x4 x5:L_I) (x6:L_II) (x7 x8:Int) (a1:L_II):Option (Int):=
 (r39 (decide ((a1.length:Int)≤200)) 8).bind fun v1=>
  iterC (b67_1 x0 x1 x2 x3 x4 x5 x6 x7 x8 a1) 1000000000 (v1,0)
def T67:=qT45 qu3 false r67
attribute [go_sem] T67
def tb67:Fns:=lk [(37,T37.sp),(38,T38.sp),(39,T39.sp),(43,T43.sp)]
theorem tb67_ok:FnsOk Tryz.prog tb67:= .cons f37 (.cons f38 (.cons f39 (.cons f43 .nil)))
theorem tk67:tb67 37=some T37.sp∧tb67 38=some T38.sp∧tb67 39=some T39.sp∧tb67 43=some T43.sp:=⟨rfl,rfl,rfl,rfl⟩
section
attribute [local go_sem] tk67 Tryz.results67
theorem f67:FnFact Tryz.prog 67 T67.sp:=by
 refine valid_m ty_ok tb67_ok Tryz.func67 rfl Tryz.ntmps67 fun ⟨x0,x1,x2,x3,x4,x5,x6,x7,x8,a1⟩ r hr=>⟨nL rfl,fun stop S=> ?_⟩
 replace hr:r67 x0 x1 x2 x3 x4 x5 x6 x7 x8 a1=some r:=hr
 unfold r67 at hr
 refine S.gx [] ?_
 obtain ⟨v1,hv1,hr⟩:=of_bind0 hr
 refine gb hv1 ?_
 refine S.sees [2,5,12,13,14] [(2,2)] [] ?_ (Stop.iter S (fun s1=>⟨[(2,.c (.ref 2 0)),(5,.c (.d (.int .i64 s1.1))),(12,.c (.d (encF 2 d_II a1))),(13,.c (.d (.int .i64 (a1.length:Int)))),(14,.c (.d (.int .i64 s1.2)))],[(2,[.d (.int .i64 x0),.d (.int .i64 x1),.d (encF 2 d_II x2),.d (encF 1 d_LIIE x3),.d (encF 1 d_I x4),.d (encF 1 d_I x5),.d (encF 2 d_II x6),.d (.int .i64 x7),.d (.int .i64 x8)])],[]⟩) (b67_1 x0 x1 x2 x3 x4 x5 x6 x7 x8 a1) (fun q=>q=r) hr rfl ?_)
 ·exact lf
 ·intro s1 hr
  unfold b67_1 at hr
  refine S.gx [] ?_
  exact D1 (S.ss [2,5,12,13,14] [(2,2)] []) hr
end
def r36 (x0 x1:Int) (x2:L_II) (x3:L_LIIE) (x4 x5:L_I) (x6:L_II) (x7 x8:Int) (a1:L_II):Option (Int×Int×L_II×L_LIIE×L_I×L_I×L_II×Int×Int×Int):=
 (r53 x0 x1 x2 x3 x4 x5 x6 x7 x8).bind fun v1=>
  if (v1.2.2.2.2.2.2.2.2.2 == 0)=true then
   (r67 v1.1 v1.2.1 v1.2.2.1 v1.2.2.2.1 v1.2.2.2.2.1 v1.2.2.2.2.2.1 v1.2.2.2.2.2.2.1 v1.2.2.2.2.2.2.2.1 v1.2.2.2.2.2.2.2.2.1 a1).bind fun v2=>
    some (v1.1,v1.2.1,v1.2.2.1,v1.2.2.2.1,v1.2.2.2.2.1,v1.2.2.2.2.2.1,v1.2.2.2.2.2.2.1,v1.2.2.2.2.2.2.2.1,v1.2.2.2.2.2.2.2.2.1,v2)
   else some (v1.1,v1.2.1,v1.2.2.1,v1.2.2.2.1,v1.2.2.2.2.1,v1.2.2.2.2.2.1,v1.2.2.2.2.2.2.1,v1.2.2.2.2.2.2.2.1,v1.2.2.2.2.2.2.2.2.1,v1.2.2.2.2.2.2.2.2.2)
def T36:=qT45 qu9 true r36
attribute [go_sem] T36
def tb36:Fns:=lk [(53,T53.sp),(67,T67.sp)]
theorem tb36_ok:FnsOk Tryz.prog tb36:= .cons f53 (.cons f67 .nil)
theorem tk36:tb36 53=some T53.sp∧tb36 67=some T67.sp:=⟨rfl,rfl⟩
section
attribute [local go_sem] tk36 Tryz.results36
theorem f36:FnFact Tryz.prog 36 T36.sp:=by
 refine valid_m ty_ok tb36_ok Tryz.func36 rfl Tryz.ntmps36 fun ⟨x0,x1,x2,x3,x4,x5,x6,x7,x8,a1⟩ r hr=>⟨nL rfl,fun stop S=> ?_⟩
 replace hr:r36 x0 x1 x2 x3 x4 x5 x6 x7 x8 a1=some r:=hr
 unfold r36 at hr
 refine S.gx [] ?_
 exact D0 hr
end
def b13_3 (a1:L_II) (x0 x2 x1:Int) (v1:Int×Int×L_II×L_LIIE×L_I×L_I×L_II×Int×Int×Int) (s2:L_I×(List (Int×Int))):Bd Int (Ctl (L_I×(List (Int×Int))) (L_II×Bool×Int)):=fun s3=>
 if (decide (s3<(s2.1.length:Int)))=true then
  if 0≤s3∧s3<(s2.1.length:Int) then
   bindC (r72 v1.1 v1.2.1 v1.2.2.1 v1.2.2.2.1 v1.2.2.2.2.1 v1.2.2.2.2.2.1 v1.2.2.2.2.2.2.1 v1.2.2.2.2.2.2.2.1 v1.2.2.2.2.2.2.2.2.1 (s2.1.getD s3.toNat default) x2) fun v9=>
    if (decide (v9>0))=true then
     .out (some (if (decide (s3≥0))=true then
      if ((s2.2.length:Int) == (IntKind.i64.wrap (x0+x1)))=true then
       .out (some ([],false,24))
       else bindC (r43 v1.1 v1.2.1 v1.2.2.1 v1.2.2.2.1 v1.2.2.2.2.1 v1.2.2.2.2.2.1 v1.2.2.2.2.2.2.1 v1.2.2.2.2.2.2.2.1 v1.2.2.2.2.2.2.2.2.1) fun v10=>
        if ((s2.2.length:Int) == (IntKind.i64.wrap (x0+x1)))=true then
         .out (some ([],false,8))
         else bindC (r68 v1.1 v1.2.1 v1.2.2.1 v1.2.2.2.1 v1.2.2.2.2.1 v1.2.2.2.2.2.1 v1.2.2.2.2.2.2.1 v1.2.2.2.2.2.2.2.1 v1.2.2.2.2.2.2.2.2.1 0 v10) fun v11=>
          bindC (r20 v1.1 v1.2.1 v1.2.2.1 v1.2.2.2.1 s2.1 v11.1 v11.2) fun v12=>
           if (v12.2 != 0)=true then
            if (v12.2 != 0)=true then
             .out (some ([],false,v12.2))
             else .next (s2.1,s2.2)
            else if (s2.2.length+1)*16≤140737488355328∧s2.2.length+1≤9223372036854775807 then
             .next (v12.1,s2.2++[(0,v10)])
             else .out none
      else .out (some (s2.2,decide (x0<(a1.length:Int)),0))))
     else .next (IntKind.i64.wrap (s3+1))
   else .out none
  else .out (some (if (decide ((-1)≥0))=true then
   if ((s2.2.length:Int) == (IntKind.i64.wrap (x0+x1)))=true then
    .out (some ([],false,24))
    else bindC (r43 v1.1 v1.2.1 v1.2.2.1 v1.2.2.2.1 v1.2.2.2.2.1 v1.2.2.2.2.2.1 v1.2.2.2.2.2.2.1 v1.2.2.2.2.2.2.2.1 v1.2.2.2.2.2.2.2.2.1) fun v15=>
     if ((s2.2.length:Int) == (IntKind.i64.wrap (x0+x1)))=true then
      .out (some ([],false,8))
      else bindC (r68 v1.1 v1.2.1 v1.2.2.1 v1.2.2.2.1 v1.2.2.2.2.1 v1.2.2.2.2.2.1 v1.2.2.2.2.2.2.1 v1.2.2.2.2.2.2.2.1 v1.2.2.2.2.2.2.2.2.1 0 v15) fun v16=>
       bindC (r20 v1.1 v1.2.1 v1.2.2.1 v1.2.2.2.1 s2.1 v16.1 v16.2) fun v17=>
        if (v17.2 != 0)=true then
         if (v17.2 != 0)=true then
          .out (some ([],false,v17.2))
          else .next (s2.1,s2.2)
         else if (s2.2.length+1)*16≤140737488355328∧s2.2.length+1≤9223372036854775807 then
          .next (v17.1,s2.2++[(0,v15)])
          else .out none
   else .out (some (s2.2,decide (x0<(a1.length:Int)),0))))
def b13_2 (a1:L_II) (x0 x2 x1:Int) (v1:Int×Int×L_II×L_LIIE×L_I×L_I×L_II×Int×Int×Int):Bd (L_I×(List (Int×Int))) (L_II×Bool×Int):=fun s2=>
 (iterC (b13_3 a1 x0 x2 x1 v1 s2) 1000000000 0).getD (.out none)
def b13_1 (a1:L_II) (x0 x2 x1:Int) (v1:Int×Int×L_II×L_LIIE×L_I×L_I×L_II×Int×Int×Int):Bd (Int×L_I×(List (Int×Int))) (L_II×Bool×Int):=fun s1=>
 if (decide (s1.1<(x0.toNat:Int)))=true then
  if 0≤s1.1∧s1.1<((a1.take x0.toNat).length:Int) then
   if ((s1.2.2.length:Int) == (IntKind.i64.wrap (x0+x1)))=true then
    .out (some ([],false,8))
    else bindC (r68 v1.1 v1.2.1 v1.2.2.1 v1.2.2.2.1 v1.2.2.2.2.1 v1.2.2.2.2.2.1 v1.2.2.2.2.2.2.1 v1.2.2.2.2.2.2.2.1 v1.2.2.2.2.2.2.2.2.1 (((a1.take x0.toNat).getD s1.1.toNat default).1) (((a1.take x0.toNat).getD s1.1.toNat default).2)) fun v5=>
     bindC (r20 v1.1 v1.2.1 v1.2.2.1 v1.2.2.2.1 s1.2.1 v5.1 v5.2) fun v6=>
      if (v6.2 != 0)=true then
       if (v6.2 != 0)=true then
        .out (some ([],false,v6.2))
        else .next (IntKind.i64.wrap (s1.1+1),s1.2.1,s1.2.2)
       else if (s1.2.2.length+1)*16≤140737488355328∧s1.2.2.length+1≤9223372036854775807 then
        .next (IntKind.i64.wrap (s1.1+1),v6.1,s1.2.2++[(((a1.take x0.toNat).getD s1.1.toNat default).1,((a1.take x0.toNat).getD s1.1.toNat default).2)])
        else .out none
   else .out none
  else .out (iterC (b13_2 a1 x0 x2 x1 v1) 1000000000 (s1.2.1,s1.2.2))
def r13 (x3 x4:Int) (x5:L_II) (x6:L_LIIE) (x7 x8:L_I) (x9:L_II) (x10 x11:Int) (a1:L_II) (x0 x2 x1:Int):Option (L_II×Bool×Int):=
 (r36 x3 x4 x5 x6 x7 x8 x9 x10 x11 a1).bind fun v1=>
  (r37 x0 0 (a1.length:Int)).bind fun v2=>
   if v2=true→(r37 x2 200 3000).isSome=true then
    if (v2 && ((r37 x2 200 3000).getD default))=true→(r37 x1 0 200).isSome=true then
     (r39 ((v2 && ((r37 x2 200 3000).getD default)) && ((r37 x1 0 200).getD default)) 2).bind fun v3=>
      (r38 [v1.2.2.2.2.2.2.2.2.2,v3]).bind fun v4=>
       if (v4 != 0)=true then
        some ([],false,v4)
        else if 0≤0∧0≤x0∧x0≤(a1.length:Int) then
         iterC (b13_1 a1 x0 x2 x1 v1) 1000000000 (0,v1.2.2.2.2.1,[])
         else none
     else none
    else none
def T13:=qT49 qu27 false r13
attribute [go_sem] T13
def tb13:Fns:=lk [(20,T20.sp),(36,T36.sp),(37,T37.sp),(38,T38.sp),(39,T39.sp),(43,T43.sp),(68,T68.sp),(72,T72.sp)]
theorem tb13_ok:FnsOk Tryz.prog tb13:= .cons f20 (.cons f36 (.cons f37 (.cons f38 (.cons f39 (.cons f43 (.cons f68 (.cons f72 .nil)))))))
theorem tk13:tb13 20=some T20.sp∧tb13 36=some T36.sp∧tb13 37=some T37.sp∧tb13 38=some T38.sp∧tb13 39=some T39.sp∧tb13 43=some T43.sp∧tb13 68=some T68.sp∧tb13 72=some T72.sp:=⟨rfl,rfl,rfl,rfl,rfl,rfl,rfl,rfl⟩
section
attribute [local go_sem] tk13 Tryz.results13 Tryz.results40 Tryz.results41 Tryz.results42 Tryz.results70 Tryz.results71 Tryz.results104
theorem f13:FnFact Tryz.prog 13 T13.sp:=by
 refine valid_m ty_ok tb13_ok Tryz.func13 rfl Tryz.ntmps13 fun ⟨x3,x4,x5,x6,x7,x8,x9,x10,x11,a1,x0,x2,x1⟩ r hr=>⟨nL rfl,fun stop S=> ?_⟩
 replace hr:r13 x3 x4 x5 x6 x7 x8 x9 x10 x11 a1 x0 x2 x1=some r:=hr
 unfold r13 at hr
 refine S.gx [6,11,15,18,4] ?_
 obtain ⟨v1,hv1,hr⟩:=of_bind0 hr
 obtain ⟨v2,hv2,hr⟩:=of_bind0 hr
 obtain ⟨hg21,hr⟩:=of_guard0 hr
 obtain ⟨hg22,hr⟩:=of_guard0 hr
 obtain ⟨v3,hv3,hr⟩:=of_bind0 hr
 obtain ⟨v4,hv4,hr⟩:=of_bind0 hr
 try simp only [hv1,hv2,hv3,hv4,Option.getD_some,Option.isSome_some,true_and,and_assoc]
 repeat (first | refine gG hg21 ?_ | refine gG hg22 ?_ | refine gA ?_ | refine gB ?_)
 refine S.prune [1,5,9,10] ?_
 refine S.gx [6,11,15,18] ?_
 refine gr ?_
 refine gr ?_
 refine iW hr (fun hc hr=>D0 hr) fun hc hr=> ?_
 refine gr ?_
 refine S.inl 1 [1,5,9] [] Tryz.func40 (by decide) rfl Tryz.ntmps40 (fun cx e=>drawn_ok ty_ok tb13_ok cx e) (some 48) rfl rfl rfl rfl (nL rfl) (nL rfl) ?_
 refine gs ?_
 refine gr ?_
 intro stop1 S1
 refine S1.gx [] ?_
 refine gr ?_
 refine gr ?_
 refine S.gx [6,11,15,18,4] ?_
 obtain ⟨hg19,hr⟩:=of_guard0 hr
 have hi20:Nonempty (PLift (x0.toNat≤a1.length)):=⟨⟨by omega⟩⟩
 try simp only [decF_subE0]
 try simp only [decF_subE,dec_I,dec_II,dec_LIIE,dec_LLIIEE,dec_LIE,dec_IIIIIH,dec_LIIIIIHE,dec_B,dec_FII,dec_LFIIE,dec_H,dec_IIII,dec_LIIIIE,dec_IIIII,dec_LIIIIIE,dec_III,dec_LIIIE,dec_ILIIEI,dec_LILIIEIE,dec_S,dec_LSE,dec_E,Option.getD_some,Option.isSome_some,true_and,and_assoc]
 refine gr ?_
 refine S.own0b 100009 10 12000910 2 rfl rfl (nL rfl) rfl ?_
 refine S.sees [1,5,9,12,13,57,58,59] [(5,5),(9,9),(100009,100009)] [(12000910,12000910)] ?_ (Stop.iter S (fun s1=>⟨[(1,.c (.d (encF 2 d_II a1))),(5,.c (.ref 5 0)),(9,.c (.ref 9 0)),(12,.c (.ref 100009 0)),(13,.c (.d (.int .i64 (IntKind.i64.wrap (x0+x1))))),(57,.c (.d (encF 2 d_II (a1.take x0.toNat)))),(58,.c (.d (.int .i64 (x0.toNat:Int)))),(59,.c (.d (.int .i64 s1.1)))],[(5,[.d (.int .i64 x0),.d (.int .i64 x2),.d (.int .i64 x1)]),(9,[.d (.int .i64 v1.1),.d (.int .i64 v1.2.1),.d (encF 2 d_II v1.2.2.1),.d (encF 1 d_LIIE v1.2.2.2.1),.d (encF 1 d_I v1.2.2.2.2.1),.d (encF 1 d_I v1.2.2.2.2.2.1),.d (encF 2 d_II v1.2.2.2.2.2.2.1),.d (.int .i64 v1.2.2.2.2.2.2.2.1),.d (.int .i64 v1.2.2.2.2.2.2.2.2.1)]),(100009,[.d (.int .i64 v1.1),.d (.int .i64 v1.2.1),.d (encF 2 d_II v1.2.2.1),.d (encF 1 d_LIIE v1.2.2.2.1),.d (encF 1 d_I v1.2.2.2.2.1),.d (encF 1 d_I v1.2.2.2.2.2.1),.d (encF 2 d_II v1.2.2.2.2.2.2.1),.d (.int .i64 v1.2.2.2.2.2.2.2.1),.d (.int .i64 v1.2.2.2.2.2.2.2.2.1),.d (encF 1 d_I s1.2.1),.own 12000910])],[(12000910,.owned (encF 2 d_II s1.2.2))]⟩) (b13_1 a1 x0 x2 x1 v1) (fun q=>q=r) hr rfl ?_)
 ·exact lf
 ·intro s1 hr
  unfold b13_1 at hr
  refine S.gx [6,11,15,18,4] ?_
  refine gr ?_
  refine iW1 hr (fun hc hr=> ?_) fun hc hr=> ?_
  ·obtain ⟨hg8,hr⟩:=of_guard1 hr
   refine gr ?_
   refine S.inl 3 [1,5,9,12,13,57,58,59] [] Tryz.func41 (by decide) rfl Tryz.ntmps41 (fun cx e=>drawn_ok ty_ok tb13_ok cx e) (some 66) rfl rfl rfl rfl (nL rfl) (nL rfl) ?_
   refine gs ?_
   refine gr ?_
   intro stop1 S1
   refine S1.gx [4] ?_
   refine gr ?_
   refine iW1 hr (fun hc hr=> ?_) fun hc hr=> ?_
   ·refine gr ?_
    refine gr ?_
    refine S.gx [6,11,15,18,4] ?_
    exact D0 hr
   ·obtain ⟨v5,hv5,hr⟩:=of_bind1 hr
    obtain ⟨v6,hv6,hr⟩:=of_bind1 hr
    refine gb hv5 ?_
    refine gb hv6 ?_
    refine S1.prune [0,4,7,8] ?_
    refine S1.gx [] ?_
    refine gr ?_
    refine gr ?_
    refine iW1 hr (fun hc hr=> ?_) fun hc hr=> ?_
    ·refine gr ?_
     refine gr ?_
     refine S.gx [6,11,15,18,4] ?_
     exact D1 (S.ss [1,5,9,12,13,57,58,59] [(5,5),(9,9),(100009,100009)] [(12000910,12000910)]) hr
    ·obtain ⟨hg7,hr⟩:=of_guard1 hr
     refine gr ?_
     refine gr ?_
     refine S.gx [6,11,15,18,4] ?_
     refine gr ?_
     refine S.share 33 rfl ?_
     exact D1 (S.ss [1,5,9,12,13,57,58,59] [(5,5),(9,9),(100009,100009)] [(48,12000910)]) hr
  ·refine gr ?_
   have hr:=of_out0 hr
   refine gr ?_
   refine S.sees [1,5,9,12,13] [(5,5),(9,9),(100009,100009)] [(12000910,12000910)] ?_ (Stop.iter S (fun s2=>⟨[(1,.c (.d (encF 2 d_II a1))),(5,.c (.ref 5 0)),(9,.c (.ref 9 0)),(12,.c (.ref 100009 0)),(13,.c (.d (.int .i64 (IntKind.i64.wrap (x0+x1)))))],[(5,[.d (.int .i64 x0),.d (.int .i64 x2),.d (.int .i64 x1)]),(9,[.d (.int .i64 v1.1),.d (.int .i64 v1.2.1),.d (encF 2 d_II v1.2.2.1),.d (encF 1 d_LIIE v1.2.2.2.1),.d (encF 1 d_I v1.2.2.2.2.1),.d (encF 1 d_I v1.2.2.2.2.2.1),.d (encF 2 d_II v1.2.2.2.2.2.2.1),.d (.int .i64 v1.2.2.2.2.2.2.2.1),.d (.int .i64 v1.2.2.2.2.2.2.2.2.1)]),(100009,[.d (.int .i64 v1.1),.d (.int .i64 v1.2.1),.d (encF 2 d_II v1.2.2.1),.d (encF 1 d_LIIE v1.2.2.2.1),.d (encF 1 d_I v1.2.2.2.2.1),.d (encF 1 d_I v1.2.2.2.2.2.1),.d (encF 2 d_II v1.2.2.2.2.2.2.1),.d (.int .i64 v1.2.2.2.2.2.2.2.1),.d (.int .i64 v1.2.2.2.2.2.2.2.2.1),.d (encF 1 d_I s2.1),.own 12000910])],[(12000910,.owned (encF 2 d_II s2.2))]⟩) (b13_2 a1 x0 x2 x1 v1) (fun q=>q=r) hr rfl ?_)
   ·exact lf
   ·intro s2 hr
    unfold b13_2 at hr
    refine S.gx [6,11,15,18,4] ?_
    refine gr ?_
    refine S.inl 3 [1,5,9,12,13] [] Tryz.func42 (by decide) rfl Tryz.ntmps42 (fun cx e=>drawn_ok ty_ok tb13_ok cx e) (some 74) rfl rfl rfl rfl (nL rfl) (nL rfl) ?_
    refine gs ?_
    refine gr ?_
    intro stop1 S1
    refine S1.gx [1] ?_
    refine gr ?_
    refine S1.inl 5 [4] [] Tryz.func70 (by decide) rfl Tryz.ntmps70 (fun cx e=>drawn_ok ty_ok tb13_ok cx e) (some 10) rfl rfl rfl rfl (nL rfl) (nL rfl) ?_
    refine gs ?_
    refine gr ?_
    intro stop2 S2
    refine S2.gx [1] ?_
    refine gr ?_
    refine S2.inl 2 [4] [] Tryz.func104 (by decide) rfl Tryz.ntmps104 (fun cx e=>drawn_ok ty_ok tb13_ok cx e) (some 7) rfl rfl rfl rfl (nL rfl) (nL rfl) ?_
    refine gs ?_
    refine gr ?_
    intro stop3 S3
    refine S3.gx [4] ?_
    refine gr ?_
    obtain ⟨q3,hq,hr⟩:=of_iter1 hr
    refine S3.sees [0,1,7,8] [(2,2),(3,3),(5,5),(9,9),(100009,100009)] [(12000910,12000910)] ?_ (Stop.iter S3 (fun s3=>⟨[(0,.c (.d (encF 1 d_I s2.1))),(1,.c (.clo 71 [.ref 2 0,.ref 3 0])),(7,.c (.d (.int .i64 (s2.1.length:Int)))),(8,.c (.d (.int .i64 s3)))],[(2,[.ref 100009 0]),(3,[.d (.int .i64 x2)]),(5,[.d (.int .i64 x0),.d (.int .i64 x2),.d (.int .i64 x1)]),(9,[.d (.int .i64 v1.1),.d (.int .i64 v1.2.1),.d (encF 2 d_II v1.2.2.1),.d (encF 1 d_LIIE v1.2.2.2.1),.d (encF 1 d_I v1.2.2.2.2.1),.d (encF 1 d_I v1.2.2.2.2.2.1),.d (encF 2 d_II v1.2.2.2.2.2.2.1),.d (.int .i64 v1.2.2.2.2.2.2.2.1),.d (.int .i64 v1.2.2.2.2.2.2.2.2.1)]),(100009,[.d (.int .i64 v1.1),.d (.int .i64 v1.2.1),.d (encF 2 d_II v1.2.2.1),.d (encF 1 d_LIIE v1.2.2.2.1),.d (encF 1 d_I v1.2.2.2.2.1),.d (encF 1 d_I v1.2.2.2.2.2.1),.d (encF 2 d_II v1.2.2.2.2.2.2.1),.d (.int .i64 v1.2.2.2.2.2.2.2.1),.d (.int .i64 v1.2.2.2.2.2.2.2.2.1),.d (encF 1 d_I s2.1),.own 12000910])],[(12000910,.owned (encF 2 d_II s2.2))]⟩) (b13_3 a1 x0 x2 x1 v1 s2) _ hq hr ?_)
    ·exact lf
    ·intro s3 hr
     unfold b13_3 at hr
     refine S3.gx [4] ?_
     refine gr ?_
     refine iW1 hr (fun hc hr=> ?_) fun hc hr=> ?_
     ·refine gr ?_
      refine S3.inl 5 [0,1,5,7,8] [.ref 2 0,.ref 3 0] Tryz.func71 (by decide) rfl Tryz.ntmps71 (fun cx e=>drawn_ok ty_ok tb13_ok cx e) (some 16) rfl rfl rfl rfl (nL rfl) (nL rfl) ?_
      refine gs ?_
      obtain ⟨hg14,hr⟩:=of_guard1 hr
      refine gr ?_
      intro stop4 S4
      refine S4.gx [] ?_
      obtain ⟨v9,hv9,hr⟩:=of_bind1 hr
      refine gb hv9 ?_
      refine gr ?_
      refine S3.gx [4] ?_
      refine gr ?_
      refine iW1 hr (fun hc hr=> ?_) fun hc hr=>D1 (S3.ss [0,1,7,8] [(2,2),(3,3),(5,5),(9,9),(100009,100009)] [(12000910,12000910)]) hr
      refine gr ?_
      replace hr:=goodC_out hr
      refine gr ?_
      refine S2.gx [1] ?_
      refine gr ?_
      refine gr ?_
      refine S1.gx [1] ?_
      refine gr ?_
      refine gr ?_
      refine S.gx [6,11,15,18,4] ?_
      refine gr ?_
      refine iW1 hr (fun hc hr=> ?_) fun hc hr=>D0 hr
      refine gr ?_
      refine iW1 hr (fun hc hr=>D0 hr) fun hc hr=> ?_
      refine gr ?_
      refine S.inl 5 [1,5,9,12,13] [] Tryz.func41 (by decide) rfl Tryz.ntmps41 (fun cx e=>drawn_ok ty_ok tb13_ok cx e) (some 87) rfl rfl rfl rfl (nL rfl) (nL rfl) ?_
      refine gs ?_
      obtain ⟨v10,hv10,hr⟩:=of_bind1 hr
      refine gb hv10 ?_
      intro stop1 S1
      refine S1.gx [4] ?_
      refine gr ?_
      refine iW1 hr (fun hc hr=> ?_) fun hc hr=> ?_
      ·refine gr ?_
       refine gr ?_
       refine S.gx [6,11,15,18,4] ?_
       exact D0 hr
      ·obtain ⟨v11,hv11,hr⟩:=of_bind1 hr
       obtain ⟨v12,hv12,hr⟩:=of_bind1 hr
       refine gb hv11 ?_
       refine gb hv12 ?_
       refine S1.prune [0,4,7,8] ?_
       refine S1.gx [] ?_
       refine gr ?_
       refine gr ?_
       refine iW1 hr (fun hc hr=> ?_) fun hc hr=> ?_
       ·refine gr ?_
        refine gr ?_
        refine S.gx [6,11,15,18,4] ?_
        exact D1 (S.ss [1,5,9,12,13] [(5,5),(9,9),(100009,100009)] [(12000910,12000910)]) hr
       ·obtain ⟨hg13,hr⟩:=of_guard1 hr
        refine gr ?_
        refine gr ?_
        refine S.gx [6,11,15,18,4] ?_
        refine gr ?_
        refine S.share 33 rfl ?_
        exact D1 (S.ss [1,5,9,12,13] [(5,5),(9,9),(100009,100009)] [(48,12000910)]) hr
     ·refine gr ?_
      replace hr:=goodC_out hr
      refine gr ?_
      refine gr ?_
      refine S2.gx [1] ?_
      refine gr ?_
      refine gr ?_
      refine S1.gx [1] ?_
      refine gr ?_
      refine gr ?_
      refine S.gx [6,11,15,18,4] ?_
      refine gr ?_
      refine iW1 hr (fun hc hr=> ?_) fun hc hr=>D0 hr
      refine gr ?_
      refine iW1 hr (fun hc hr=>D0 hr) fun hc hr=> ?_
      refine gr ?_
      refine S.inl 5 [1,5,9,12,13] [] Tryz.func41 (by decide) rfl Tryz.ntmps41 (fun cx e=>drawn_ok ty_ok tb13_ok cx e) (some 87) rfl rfl rfl rfl (nL rfl) (nL rfl) ?_
      refine gs ?_
      obtain ⟨v15,hv15,hr⟩:=of_bind1 hr
      refine gb hv15 ?_
      intro stop1 S1
      refine S1.gx [4] ?_
      refine gr ?_
      refine iW1 hr (fun hc hr=> ?_) fun hc hr=> ?_
      ·refine gr ?_
       refine gr ?_
       refine S.gx [6,11,15,18,4] ?_
       exact D0 hr
      ·obtain ⟨v16,hv16,hr⟩:=of_bind1 hr
       obtain ⟨v17,hv17,hr⟩:=of_bind1 hr
       refine gb hv16 ?_
       refine gb hv17 ?_
       refine S1.prune [0,4,7,8] ?_
       refine S1.gx [] ?_
       refine gr ?_
       refine gr ?_
       refine iW1 hr (fun hc hr=> ?_) fun hc hr=> ?_
       ·refine gr ?_
        refine gr ?_
        refine S.gx [6,11,15,18,4] ?_
        exact D1 (S.ss [1,5,9,12,13] [(5,5),(9,9),(100009,100009)] [(12000910,12000910)]) hr
       ·obtain ⟨hg18,hr⟩:=of_guard1 hr
        refine gr ?_
        refine gr ?_
        refine S.gx [6,11,15,18,4] ?_
        refine gr ?_
        refine S.share 33 rfl ?_
        exact D1 (S.ss [1,5,9,12,13] [(5,5),(9,9),(100009,100009)] [(48,12000910)]) hr
end
def b17_1 (a0:L_I):Bd (Int×Int) Int:=fun s1=>
 if (decide (s1.2<(a0.length:Int)))=true then
  if 0≤s1.2∧s1.2<(a0.length:Int) then
   .next ((if s1.1<(a0.getD s1.2.toNat default) then (a0.getD s1.2.toNat default) else s1.1),IntKind.i64.wrap (s1.2+1))
   else .out none
  else .out (some s1.1)
def r17 (a0:L_I):Option (Int):=
 iterC (b17_1 a0) 1000000000 (0,0)
def T17:=qT3 qu3 false r17
attribute [go_sem] T17
def tb17:Fns:=lk []
theorem tb17_ok:FnsOk Tryz.prog tb17:=FnsOk.nil
section
attribute [local go_sem] Tryz.results17
theorem f17:FnFact Tryz.prog 17 T17.sp:=by
 refine valid_m ty_ok tb17_ok Tryz.func17 rfl Tryz.ntmps17 fun a0 r hr=>⟨nL rfl,fun stop S=> ?_⟩
 replace hr:r17 a0=some r:=hr
 unfold r17 at hr
 refine S.gx [] ?_
 refine gr ?_
 refine S.sees [0,3,4] [] [] ?_ (Stop.iter S (fun s1=>⟨[(0,.c (.d (encF 1 d_I a0))),(3,.c (.d (.int .i64 s1.1))),(4,.c (.d (.int .i64 s1.2)))],[],[]⟩) (b17_1 a0) (fun q=>q=r) hr rfl ?_)
 ·exact lf
 ·intro s1 hr
  unfold b17_1 at hr
  refine S.gx [] ?_
  exact D1 (S.ss [0,3,4] [] []) hr
end
def r18 (a0 a1:Int):Option (Int):=
 if a1≠0 then
  if a1≠0 then
   if (decide ((a0.tmod a1)<0))=true then
    some (IntKind.i64.wrap ((IntKind.i64.wrap (a0.tdiv a1)) - 1))
    else some (IntKind.i64.wrap (a0.tdiv a1))
   else none
  else none
def T18:=qT7 qu3 false r18
attribute [go_sem] T18
def tb18:Fns:=lk []
theorem tb18_ok:FnsOk Tryz.prog tb18:=FnsOk.nil
section
attribute [local go_sem] Tryz.results18
theorem f18:FnFact Tryz.prog 18 T18.sp:=by
 refine valid_m ty_ok tb18_ok Tryz.func18 rfl Tryz.ntmps18 fun ⟨a0,a1⟩ r hr=>⟨nL rfl,fun stop S=> ?_⟩
 replace hr:r18 a0 a1=some r:=hr
 unfold r18 at hr
 refine S.gx [] ?_
 exact D0 hr
end
def r46 (x1 x2:Int) (x3:L_II) (x0:L_LIIE) (a1:Int):Option (Int):=
 (r15 a1 0 (IntKind.i64.wrap ((x0.length:Int) - 1))).bind fun v1=>
  if (!v1)=true then
   some 6
   else some 0
def T46:=qT23 qu3 false r46
attribute [go_sem] T46
def tb46:Fns:=lk [(15,T15.sp)]
theorem tb46_ok:FnsOk Tryz.prog tb46:= .cons f15 .nil
theorem tk46:tb46 15=some T15.sp:=rfl
section
attribute [local go_sem] tk46 Tryz.results46
theorem f46:FnFact Tryz.prog 46 T46.sp:=by
 refine valid_m ty_ok tb46_ok Tryz.func46 rfl Tryz.ntmps46 fun ⟨x1,x2,x3,x0,a1⟩ r hr=>⟨nL rfl,fun stop S=> ?_⟩
 replace hr:r46 x1 x2 x3 x0 a1=some r:=hr
 unfold r46 at hr
 refine S.gx [] ?_
 exact D0 hr
end
def b19_1 (x1 x2:Int) (x3:L_II) (x4:L_LIIE) (x0:L_I) (x5:Int):Bd Int Int:=fun s1=>
 if (decide (s1<(x0.length:Int)))=true then
  if 0≤s1∧s1<(x0.length:Int) then
   bindC (r15 (x0.getD s1.toNat default) 0 10000) fun v1=>
    if (!v1)=true then
     .out (some 2)
     else .next (IntKind.i64.wrap (s1+1))
   else .out none
  else .out ((r46 x1 x2 x3 x4 x5).bind fun v3=>
   some v3)
def r19 (x1 x2:Int) (x3:L_II) (x4:L_LIIE) (x0:L_I) (x5:Int):Option (Int):=
 if ((x0.length:Int) != x1)=true then
  some 10
  else iterC (b19_1 x1 x2 x3 x4 x0 x5) 1000000000 0
def T19:=qT50 qu3 false r19
attribute [go_sem] T19
def tb19:Fns:=lk [(15,T15.sp),(46,T46.sp)]
theorem tb19_ok:FnsOk Tryz.prog tb19:= .cons f15 (.cons f46 .nil)
theorem tk19:tb19 15=some T15.sp∧tb19 46=some T46.sp:=⟨rfl,rfl⟩
section
attribute [local go_sem] tk19 Tryz.results19
theorem f19:FnFact Tryz.prog 19 T19.sp:=by
 refine valid_m ty_ok tb19_ok Tryz.func19 rfl Tryz.ntmps19 fun ⟨x1,x2,x3,x4,x0,x5⟩ r hr=>⟨nL rfl,fun stop S=> ?_⟩
 replace hr:r19 x1 x2 x3 x4 x0 x5=some r:=hr
 unfold r19 at hr
 refine S.gx [] ?_
 refine gr ?_
 refine iW hr (fun hc hr=>D0 hr) fun hc hr=> ?_
 refine gr ?_
 refine S.sees [2,3,5] [(2,2),(3,3)] [] ?_ (Stop.iter S (fun s1=>⟨[(2,.c (.ref 2 0)),(3,.c (.ref 3 0)),(5,.c (.d (.int .i64 s1)))],[(2,[.d (.int .i64 x1),.d (.int .i64 x2),.d (encF 2 d_II x3),.d (encF 1 d_LIIE x4)]),(3,[.d (encF 1 d_I x0),.d (.int .i64 x5)])],[]⟩) (b19_1 x1 x2 x3 x4 x0 x5) (fun q=>q=r) hr rfl ?_)
 ·exact lf
 ·intro s1 hr
  unfold b19_1 at hr
  refine S.gx [] ?_
  exact D1 (S.ss [2,3,5] [(2,2),(3,3)] []) hr
end
end Go.Proofs.YtlnlpncchgimgaaGreatDoor

/- Contracts of functions, written by wip/dec. -/
import Derived.Test.YtofkgmldcjagmaaGreatDoorF00
import Derived.Test.YtofkgmldcjagmaaGreatDoorF02
import Derived.Test.YtofkgmldcjagmaaGreatDoorF03
import Derived.Test.YtofkgmldcjagmaaGreatDoorF04
import Derived.Test.YtofkgmldcjagmaaGreatDoorF06
set_option linter.unusedVariables false
set_option linter.unusedSimpArgs false
set_option linter.constructorNameAsVariable false
set_option maxHeartbeats 4000000
set_option maxRecDepth 20000
namespace Go.Proofs.YtofkgmldcjagmaaGreatDoor
open Go.Abs
section
variable {β:Type} [Inhabited β] (u:β→List RV) (al:Bool)
def qw74 (a0 a1:L_I):List Arg:=[.agg [encF 1 d_I a0,encF 1 d_I a1]]
def qd74:List Arg→L_I×L_I
 | [.agg [c0,c1]]=>(decF g_I c0,decF g_I c1)
 | _=>default
def qT74 (r:L_I→L_I→Option β):=mkT (u2 qw74) qd74 (u2 r) u al
attribute [go_sem] qw74 qd74 qT74
def qw76 (a0:L_II) (a1 a2:Int):List Arg:=[.c (encF 2 d_II a0),.c (.int .i64 a1),.c (.int .i64 a2)]
def qd76:List Arg→L_II×Int×Int
 | [.c c0,.c c1,.c c2]=>(decF g_II c0,dInt c1,dInt c2)
 | _=>default
def qT76 (r:L_II→Int→Int→Option β):=mkT (u3 qw76) qd76 (u3 r) u al
attribute [go_sem] qw76 qd76 qT76
def qu38 (v:Int×Int×L_II×L_LIIE):List RV:=[.agg [.d (.int .i64 v.1),.d (.int .i64 v.2.1),.own (encF 2 d_II v.2.2.1),.own (encF 1 d_LIIE v.2.2.2)]]
attribute [go_sem] qu38
def qu40 (v:L_I×L_I):List RV:=[.agg [.own (encF 1 d_I v.1),.own (encF 1 d_I v.2)]]
attribute [go_sem] qu40
def qu41 (v:L_II×Bool×Int):List RV:=[.c (.own (encF 2 d_II v.1)),.c (.d (.bool v.2.1)),.c (.d (.int .i64 v.2.2))]
attribute [go_sem] qu41
end
def b7_1 (x0:L_LIIE):Bd Int Bool:=fun s1=>
 if (decide (s1<(x0.length:Int)))=true then
  if 0≤s1∧s1<(x0.length:Int) then
   if (decide (((x0.getD s1.toNat default).length:Int)>14))=true then
    .out (some false)
    else .next (IntKind.i64.wrap (s1+1))
   else .out none
  else .out (some true)
def r7 (x1 x6:Int) (x2:L_II) (x0:L_LIIE) (x3 x4:L_I) (x5:L_II) (x7 x8:Int):Option (Bool):=
 if ((((((decide (x1>14)) || (decide ((x2.length:Int)>14))) || (decide ((x0.length:Int)>14))) || (decide ((x3.length:Int)>14))) || (decide ((x4.length:Int)>14))) || (decide ((x5.length:Int)>14)))=true then
  some false
  else iterC (b7_1 x0) 1000000000 0
@[go_sem] def T7:=qT19 qu2 false r7
theorem f7:FnFact Tryz.prog 7 T7.sp:=by
 refine vm .nil Tryz.func7 Tryz.ntmps7 fun ⟨x1,x6,x2,x0,x3,x4,x5,x7,x8⟩ r hr stop S=> ?_
 rw [uq9,r7] at hr
 refine S.gx [2,3] ?_
 repeat (first | refine gA ?_ | refine gB ?_)
 refine iW hr (fun hc hr=> ?_) fun hc hr=> ?_
 ·refine gr ?_
  refine S.prune [] ?_
  refine S.gx [3] ?_
  exact D0 hr
 ·refine gr ?_
  refine S.prune [1] ?_
  refine S.gx [2] ?_
  refine gr ?_
  refine gr ?_
  refine S.sees [1,3] [(1,1)] [] ?_ (Stop.iter S (fun s1=>⟨[(1,.c (.ref 1 0)),(3,.c (.d (.int .i64 s1)))],[(1,[.d (.int .i64 x1),.d (.int .i64 x6),.d (encF 2 d_II x2),.d (encF 1 d_LIIE x0),.d (encF 1 d_I x3),.d (encF 1 d_I x4),.d (encF 2 d_II x5),.d (.int .i64 x7),.d (.int .i64 x8)])],[]⟩) (b7_1 x0) (fun q=>q=r) hr rfl ?_)
  ·exact lf
  ·intro s1 hr
   unfold b7_1 at hr
   refine S.gx [2,3] ?_
   exact D1 (S.ss [1,3] [(1,1)] []) hr
def b44_1 (x2 x3:Int) (x1:L_II) (x0:L_LIIE):Bd (Int×(List (L_II))) (Int×Int×L_II×L_LIIE):=fun s1=>
 if (decide (s1.1<(x0.length:Int)))=true then
  if 0≤s1.1∧s1.1<(x0.length:Int) then
   if (0+(x0.getD s1.1.toNat default).length)*16≤140737488355328∧0+(x0.getD s1.1.toNat default).length≤9223372036854775807 then
    if (s1.2.length+1)*24≤140737488355328∧s1.2.length+1≤9223372036854775807 then
     .next (IntKind.i64.wrap (s1.1+1),s1.2++[(x0.getD s1.1.toNat default)])
     else .out none
    else .out none
   else .out none
  else .out (some (x2,x3,x1,s1.2))
def r44 (x2 x3:Int) (x1:L_II) (x0:L_LIIE):Option (Int×Int×L_II×L_LIIE):=
 if (0+x1.length)*16≤140737488355328∧0+x1.length≤9223372036854775807 then
  iterC (b44_1 x2 x3 x1 x0) 1000000000 (0,[])
  else none
@[go_sem] def T44:=qT12 qu38 true r44
theorem f44:FnFact Tryz.prog 44 T44.sp:=by
 refine vm .nil Tryz.func44 Tryz.ntmps44 fun ⟨x2,x3,x1,x0⟩ r hr stop S=> ?_
 rw [uq4,r44] at hr
 refine S.gx [] ?_
 obtain ⟨hg4,hr⟩:=of_guard0 hr
 refine gr ?_
 refine S.own0b 3 3 2000303 1 rfl rfl (nL rfl) rfl ?_
 refine S.sees [1,2,3,4] [(1,1),(2,2),(3,3)] [(2000303,2000303),(9,9)] ?_ (Stop.iter S (fun s1=>⟨[(1,.c (.ref 1 0)),(2,.c (.ref 2 0)),(3,.c (.ref 3 0)),(4,.c (.d (.int .i64 s1.1)))],[(1,[.d (.int .i64 x2),.d (.int .i64 x3),.d (encF 2 d_II x1),.d (encF 1 d_LIIE x0)]),(2,[.d (.int .i64 0),.d (.int .i64 0),.nils,.nils]),(3,[.d (.int .i64 x2),.d (.int .i64 x3),.own 9,.own 2000303])],[(2000303,.owned (encF 1 d_LIIE s1.2)),(9,.owned (encF 2 d_II x1))]⟩) (b44_1 x2 x3 x1 x0) (fun q=>q=r) hr rfl ?_)
 ·exact lf
 ·intro s1 hr
  unfold b44_1 at hr
  refine S.gx [] ?_
  exact D1 (S.ss [1,2,3,4] [(1,1),(2,2),(3,3)] [(29,2000303),(9,9)]) hr
def r79 (a0:L_I):Option (L_I):=
 if (0+a0.length)*8≤140737488355328∧0+a0.length≤9223372036854775807 then
  some a0
  else none
@[go_sem] def T79:=qT3 qu39 false r79
theorem f79:FnFact Tryz.prog 79 T79.sp:=by
 refine vm .nil Tryz.func79 Tryz.ntmps79 fun a0 r hr stop S=> ?_
 rw [uq1,r79] at hr
 refine S.gx [] ?_
 exact D0 hr
def r45 (x0 x1:L_I):Option (L_I×L_I):=
 (r79 x0).bind fun v1=>
  (r79 x1).bind fun v2=>
   some (v1,v2)
@[go_sem] def T45:=qT74 qu40 false r45
@[go_sem] def tb45 (k:Nat):=lk [(79,T79.sp)] k
theorem f45:FnFact Tryz.prog 45 T45.sp:=by
 refine vm (tb:=tb45) (.cons f79 .nil) Tryz.func45 Tryz.ntmps45 fun ⟨x0,x1⟩ r hr stop S=> ?_
 rw [uq2,r45] at hr
 refine S.gx [] ?_
 exact D0 hr
def r46 (a0:L_II):Option (L_II):=
 if (0+a0.length)*16≤140737488355328∧0+a0.length≤9223372036854775807 then
  some a0
  else none
@[go_sem] def T46:=qT5 qu5 false r46
theorem f46:FnFact Tryz.prog 46 T46.sp:=by
 refine vm .nil Tryz.func46 Tryz.ntmps46 fun a0 r hr stop S=> ?_
 rw [uq1,r46] at hr
 refine S.gx [] ?_
 exact D0 hr
def r9 (x0 x1:Int) (x2:L_II) (x3:L_LIIE) (x4 x5:L_I) (x6:L_II) (x7 x8:Int):Option (Int×Int×L_II×L_LIIE×L_I×L_I×L_II×Int×Int):=
 (r44 x0 x1 x2 x3).bind fun v1=>
  (r45 x4 x5).bind fun v2=>
   (r46 x6).bind fun v3=>
    some (v1.1,v1.2.1,v1.2.2.1,v1.2.2.2,v2.1,v2.2,v3,x7,x8)
@[go_sem] def T9:=qT19 qu0 true r9
@[go_sem] def tb9 (k:Nat):=lk [(44,T44.sp),(45,T45.sp),(46,T46.sp)] k
theorem f9:FnFact Tryz.prog 9 T9.sp:=by
 refine vm (tb:=tb9) (.cons f44 (.cons f45 (.cons f46 .nil))) Tryz.func9 Tryz.ntmps9 fun ⟨x0,x1,x2,x3,x4,x5,x6,x7,x8⟩ r hr stop S=> ?_
 rw [uq9,r9] at hr
 refine S.gx [] ?_
 exact D0 hr
def r36 (x0 x1:Int) (x2:L_II) (x3:L_LIIE) (x4 x5:L_I) (x6:L_II) (x7 x8:Int) (a1:L_II):Option (Int×Int×L_II×L_LIIE×L_I×L_I×L_II×Int×Int×Int):=
 (r61 x0 x1 x2 x3 x4 x5 x6 x7 x8).bind fun v1=>
  if (v1.2.2.2.2.2.2.2.2.2 == 0)=true then
   (r65 v1.1 v1.2.1 v1.2.2.1 v1.2.2.2.1 v1.2.2.2.2.1 v1.2.2.2.2.2.1 v1.2.2.2.2.2.2.1 v1.2.2.2.2.2.2.2.1 v1.2.2.2.2.2.2.2.2.1 a1).bind fun v2=>
    some (v1.1,v1.2.1,v1.2.2.1,v1.2.2.2.1,v1.2.2.2.2.1,v1.2.2.2.2.2.1,v1.2.2.2.2.2.2.1,v1.2.2.2.2.2.2.2.1,v1.2.2.2.2.2.2.2.2.1,v2)
   else some (v1.1,v1.2.1,v1.2.2.1,v1.2.2.2.1,v1.2.2.2.2.1,v1.2.2.2.2.2.1,v1.2.2.2.2.2.2.1,v1.2.2.2.2.2.2.2.1,v1.2.2.2.2.2.2.2.2.1,v1.2.2.2.2.2.2.2.2.2)
@[go_sem] def T36:=qT39 qu9 true r36
@[go_sem] def tb36 (k:Nat):=lk [(61,T61.sp),(65,T65.sp)] k
theorem f36:FnFact Tryz.prog 36 T36.sp:=by
 refine vm (tb:=tb36) (.cons f61 (.cons f65 .nil)) Tryz.func36 Tryz.ntmps36 fun ⟨x0,x1,x2,x3,x4,x5,x6,x7,x8,a1⟩ r hr stop S=> ?_
 rw [uq10,r36] at hr
 refine S.gx [] ?_
 exact D0 hr
def b8_3 (a1:L_II) (x0 x2 x1:Int) (v1:Int×Int×L_II×L_LIIE×L_I×L_I×L_II×Int×Int×Int) (s2:L_I×(List (Int×Int))):Bd Int (Ctl (L_I×(List (Int×Int))) (L_II×Bool×Int)):=fun s3=>
 if (decide (s3<(s2.1.length:Int)))=true then
  if 0≤s3∧s3<(s2.1.length:Int) then
   bindC (r78 v1.1 v1.2.1 v1.2.2.1 v1.2.2.2.1 v1.2.2.2.2.1 v1.2.2.2.2.2.1 v1.2.2.2.2.2.2.1 v1.2.2.2.2.2.2.2.1 v1.2.2.2.2.2.2.2.2.1 (s2.1.getD s3.toNat default) x2) fun v9=>
    if (decide (v9>0))=true then
     .out (some (if (decide (s3≥0))=true then
      if ((s2.2.length:Int) == (IntKind.i64.wrap (x0+x1)))=true then
       .out (some ([],false,24))
       else bindC (r43 v1.1 v1.2.1 v1.2.2.1 v1.2.2.2.1 v1.2.2.2.2.1 v1.2.2.2.2.2.1 v1.2.2.2.2.2.2.1 v1.2.2.2.2.2.2.2.1 v1.2.2.2.2.2.2.2.2.1) fun v10=>
        if ((s2.2.length:Int) == (IntKind.i64.wrap (x0+x1)))=true then
         .out (some ([],false,8))
         else bindC (r74 v1.1 v1.2.1 v1.2.2.1 v1.2.2.2.1 v1.2.2.2.2.1 v1.2.2.2.2.2.1 v1.2.2.2.2.2.2.1 v1.2.2.2.2.2.2.2.1 v1.2.2.2.2.2.2.2.2.1 0 v10 75) fun v11=>
          bindC (r73 v1.1 v1.2.1 v1.2.2.1 v1.2.2.2.1 s2.1 v11.1 v11.2) fun v12=>
           if (v12.2 != 0)=true then
            if (v12.2 != 0)=true then
             .out (some ([],false,v12.2))
             else .next (s2.1,s2.2)
            else if (s2.2.length+1)*16≤140737488355328∧s2.2.length+1≤9223372036854775807 then
             .next (v12.1,s2.2++[(0,v10)])
             else .out none
      else .out (some (s2.2,decide (x0<(a1.length:Int)),0))))
     else .next (IntKind.i64.wrap (s3+1))
   else .out none
  else .out (some (.out (some (s2.2,decide (x0<(a1.length:Int)),0))))
def b8_2 (a1:L_II) (x0 x2 x1:Int) (v1:Int×Int×L_II×L_LIIE×L_I×L_I×L_II×Int×Int×Int):Bd (L_I×(List (Int×Int))) (L_II×Bool×Int):=fun s2=>
 (iterC (b8_3 a1 x0 x2 x1 v1 s2) 1000000000 0).getD (.out none)
def b8_1 (a1:L_II) (x0 x2 x1:Int) (v1:Int×Int×L_II×L_LIIE×L_I×L_I×L_II×Int×Int×Int):Bd (Int×L_I×(List (Int×Int))) (L_II×Bool×Int):=fun s1=>
 if (decide (s1.1<(x0.toNat:Int)))=true then
  if 0≤s1.1∧s1.1<((a1.take x0.toNat).length:Int) then
   if ((s1.2.2.length:Int) == (IntKind.i64.wrap (x0+x1)))=true then
    .out (some ([],false,8))
    else bindC (r74 v1.1 v1.2.1 v1.2.2.1 v1.2.2.2.1 v1.2.2.2.2.1 v1.2.2.2.2.2.1 v1.2.2.2.2.2.2.1 v1.2.2.2.2.2.2.2.1 v1.2.2.2.2.2.2.2.2.1 (((a1.take x0.toNat).getD s1.1.toNat default).1) (((a1.take x0.toNat).getD s1.1.toNat default).2) 75) fun v5=>
     bindC (r73 v1.1 v1.2.1 v1.2.2.1 v1.2.2.2.1 s1.2.1 v5.1 v5.2) fun v6=>
      if (v6.2 != 0)=true then
       if (v6.2 != 0)=true then
        .out (some ([],false,v6.2))
        else .next (IntKind.i64.wrap (s1.1+1),s1.2.1,s1.2.2)
       else if (s1.2.2.length+1)*16≤140737488355328∧s1.2.2.length+1≤9223372036854775807 then
        .next (IntKind.i64.wrap (s1.1+1),v6.1,s1.2.2++[(((a1.take x0.toNat).getD s1.1.toNat default).1,((a1.take x0.toNat).getD s1.1.toNat default).2)])
        else .out none
   else .out none
  else .out (iterC (b8_2 a1 x0 x2 x1 v1) 1000000000 (s1.2.1,s1.2.2))
def r8 (x3 x4:Int) (x5:L_II) (x6:L_LIIE) (x7 x8:L_I) (x9:L_II) (x10 x11:Int) (a1:L_II) (x0 x2 x1:Int):Option (L_II×Bool×Int):=
 (r36 x3 x4 x5 x6 x7 x8 x9 x10 x11 a1).bind fun v1=>
  (r37 x0 0 (a1.length:Int)).bind fun v2=>
   if v2=true→(r37 x2 200 3000).isSome=true then
    if (v2 && ((r37 x2 200 3000).getD default))=true→(r37 x1 0 200).isSome=true then
     (r39 ((v2 && ((r37 x2 200 3000).getD default)) && ((r37 x1 0 200).getD default)) 2).bind fun v3=>
      (r38 [v1.2.2.2.2.2.2.2.2.2,v3]).bind fun v4=>
       if (v4 != 0)=true then
        some ([],false,v4)
        else if 0≤0∧0≤x0∧x0≤(a1.length:Int) then
         iterC (b8_1 a1 x0 x2 x1 v1) 1000000000 (0,v1.2.2.2.2.1,[])
         else none
     else none
    else none
@[go_sem] def T8:=qT75 qu41 false r8
@[go_sem] def tb8 (k:Nat):=lk [(36,T36.sp),(37,T37.sp),(38,T38.sp),(39,T39.sp),(43,T43.sp),(73,T73.sp),(74,T74.sp),(78,T78.sp)] k
theorem tb8_ok:FnsOk Tryz.prog tb8:= .cons f36 (.cons f37 (.cons f38 (.cons f39 (.cons f43 (.cons f73 (.cons f74 (.cons f78 .nil)))))))
theorem f8:FnFact Tryz.prog 8 T8.sp:=by
 refine vm (tb:=tb8) (.cons f36 (.cons f37 (.cons f38 (.cons f39 (.cons f43 (.cons f73 (.cons f74 (.cons f78 .nil)))))))) Tryz.func8 Tryz.ntmps8 fun ⟨x3,x4,x5,x6,x7,x8,x9,x10,x11,a1,x0,x2,x1⟩ r hr stop S=> ?_
 rw [uq13,r8] at hr
 refine S.gx [6,11,15,18,4] ?_
 obtain ⟨v1,hv1,hr⟩:=of_bind0 hr
 obtain ⟨v2,hv2,hr⟩:=of_bind0 hr
 obtain ⟨hg17,hr⟩:=of_guard0 hr
 obtain ⟨hg18,hr⟩:=of_guard0 hr
 obtain ⟨v3,hv3,hr⟩:=of_bind0 hr
 obtain ⟨v4,hv4,hr⟩:=of_bind0 hr
 try simp only [hv1,hv2,hv3,hv4,Option.getD_some,Option.isSome_some,true_and,and_assoc]
 repeat (first | refine gG hg17 ?_ | refine gG hg18 ?_ | refine gA ?_ | refine gB ?_)
 refine S.prune [1,5,9,10] ?_
 refine S.gx [6,11,15,18] ?_
 refine gr ?_
 refine gr ?_
 refine iW hr (fun hc hr=>D0 hr) fun hc hr=> ?_
 refine gr ?_
 refine S.inl 1 [1,5,9] [] Tryz.func40 (by decide) rfl Tryz.ntmps40 (fun cx e=>drawn_ok ty_ok tb8_ok cx e) (some 48) rfl rfl rfl rfl (nL rfl) (nL rfl) ?_
 refine gs ?_
 refine gr ?_
 intro stop1 S1
 refine S1.gx [] ?_
 refine gr ?_
 refine gr ?_
 refine S.gx [6,11,15,18,4] ?_
 obtain ⟨hg15,hr⟩:=of_guard0 hr
 have hi16:Nonempty (PLift (x0.toNat≤a1.length)):=⟨⟨by omega⟩⟩
 try simp only [decF_subE0]
 try simp only [decF_subE,dec_I,dec_II,dec_LIIE,dec_LLIIEE,dec_LIE,dec_IIIIIH,dec_LIIIIIHE,dec_B,dec_FII,dec_LFIIE,dec_H,dec_IIII,dec_LIIIIE,dec_IIIII,dec_LIIIIIE,dec_III,dec_LIIIE,dec_ILIIEI,dec_LILIIEIE,dec_LIIEII,dec_LLIIEIIE,dec_LIELIE,dec_LLIELIEE,dec_S,dec_E,dec_LSE,Option.getD_some,Option.isSome_some,true_and,and_assoc]
 refine gr ?_
 refine S.own0b 100009 10 12000910 2 rfl rfl (nL rfl) rfl ?_
 refine S.sees [1,5,9,12,13,57,58,59] [(5,5),(9,9),(100009,100009)] [(12000910,12000910)] ?_ (Stop.iter S (fun s1=>⟨[(1,.c (.d (encF 2 d_II a1))),(5,.c (.ref 5 0)),(9,.c (.ref 9 0)),(12,.c (.ref 100009 0)),(13,.c (.d (.int .i64 (IntKind.i64.wrap (x0+x1))))),(57,.c (.d (encF 2 d_II (a1.take x0.toNat)))),(58,.c (.d (.int .i64 (x0.toNat:Int)))),(59,.c (.d (.int .i64 s1.1)))],[(5,[.d (.int .i64 x0),.d (.int .i64 x2),.d (.int .i64 x1)]),(9,[.d (.int .i64 v1.1),.d (.int .i64 v1.2.1),.d (encF 2 d_II v1.2.2.1),.d (encF 1 d_LIIE v1.2.2.2.1),.d (encF 1 d_I v1.2.2.2.2.1),.d (encF 1 d_I v1.2.2.2.2.2.1),.d (encF 2 d_II v1.2.2.2.2.2.2.1),.d (.int .i64 v1.2.2.2.2.2.2.2.1),.d (.int .i64 v1.2.2.2.2.2.2.2.2.1)]),(100009,[.d (.int .i64 v1.1),.d (.int .i64 v1.2.1),.d (encF 2 d_II v1.2.2.1),.d (encF 1 d_LIIE v1.2.2.2.1),.d (encF 1 d_I v1.2.2.2.2.1),.d (encF 1 d_I v1.2.2.2.2.2.1),.d (encF 2 d_II v1.2.2.2.2.2.2.1),.d (.int .i64 v1.2.2.2.2.2.2.2.1),.d (.int .i64 v1.2.2.2.2.2.2.2.2.1),.d (encF 1 d_I s1.2.1),.own 12000910])],[(12000910,.owned (encF 2 d_II s1.2.2))]⟩) (b8_1 a1 x0 x2 x1 v1) (fun q=>q=r) hr rfl ?_)
 ·exact lf
 ·intro s1 hr
  unfold b8_1 at hr
  refine S.gx [6,11,15,18,4] ?_
  refine gr ?_
  refine iW1 hr (fun hc hr=> ?_) fun hc hr=> ?_
  ·obtain ⟨hg8,hr⟩:=of_guard1 hr
   refine gr ?_
   refine S.inl 3 [1,5,9,12,13,57,58,59] [] Tryz.func41 (by decide) rfl Tryz.ntmps41 (fun cx e=>drawn_ok ty_ok tb8_ok cx e) (some 66) rfl rfl rfl rfl (nL rfl) (nL rfl) ?_
   refine gs ?_
   refine gr ?_
   intro stop1 S1
   refine S1.gx [4] ?_
   refine gr ?_
   refine iW1 hr (fun hc hr=> ?_) fun hc hr=> ?_
   ·refine gr ?_
    refine gr ?_
    refine S.gx [6,11,15,18,4] ?_
    exact D0 hr
   ·obtain ⟨v5,hv5,hr⟩:=of_bind1 hr
    obtain ⟨v6,hv6,hr⟩:=of_bind1 hr
    refine gb hv5 ?_
    refine gb hv6 ?_
    refine S1.prune [0,4,7,8] ?_
    refine S1.gx [] ?_
    refine gr ?_
    refine gr ?_
    refine iW1 hr (fun hc hr=> ?_) fun hc hr=> ?_
    ·refine gr ?_
     refine gr ?_
     refine S.gx [6,11,15,18,4] ?_
     exact D1 (S.ss [1,5,9,12,13,57,58,59] [(5,5),(9,9),(100009,100009)] [(12000910,12000910)]) hr
    ·obtain ⟨hg7,hr⟩:=of_guard1 hr
     refine gr ?_
     refine gr ?_
     refine S.gx [6,11,15,18,4] ?_
     refine gr ?_
     refine S.share 33 rfl ?_
     exact D1 (S.ss [1,5,9,12,13,57,58,59] [(5,5),(9,9),(100009,100009)] [(48,12000910)]) hr
  ·refine gr ?_
   have hr:=of_out0 hr
   refine gr ?_
   refine S.sees [1,5,9,12,13] [(5,5),(9,9),(100009,100009)] [(12000910,12000910)] ?_ (Stop.iter S (fun s2=>⟨[(1,.c (.d (encF 2 d_II a1))),(5,.c (.ref 5 0)),(9,.c (.ref 9 0)),(12,.c (.ref 100009 0)),(13,.c (.d (.int .i64 (IntKind.i64.wrap (x0+x1)))))],[(5,[.d (.int .i64 x0),.d (.int .i64 x2),.d (.int .i64 x1)]),(9,[.d (.int .i64 v1.1),.d (.int .i64 v1.2.1),.d (encF 2 d_II v1.2.2.1),.d (encF 1 d_LIIE v1.2.2.2.1),.d (encF 1 d_I v1.2.2.2.2.1),.d (encF 1 d_I v1.2.2.2.2.2.1),.d (encF 2 d_II v1.2.2.2.2.2.2.1),.d (.int .i64 v1.2.2.2.2.2.2.2.1),.d (.int .i64 v1.2.2.2.2.2.2.2.2.1)]),(100009,[.d (.int .i64 v1.1),.d (.int .i64 v1.2.1),.d (encF 2 d_II v1.2.2.1),.d (encF 1 d_LIIE v1.2.2.2.1),.d (encF 1 d_I v1.2.2.2.2.1),.d (encF 1 d_I v1.2.2.2.2.2.1),.d (encF 2 d_II v1.2.2.2.2.2.2.1),.d (.int .i64 v1.2.2.2.2.2.2.2.1),.d (.int .i64 v1.2.2.2.2.2.2.2.2.1),.d (encF 1 d_I s2.1),.own 12000910])],[(12000910,.owned (encF 2 d_II s2.2))]⟩) (b8_2 a1 x0 x2 x1 v1) (fun q=>q=r) hr rfl ?_)
   ·exact lf
   ·intro s2 hr
    unfold b8_2 at hr
    refine S.gx [6,11,15,18,4] ?_
    refine gr ?_
    refine S.inl 3 [1,5,9,12,13] [] Tryz.func42 (by decide) rfl Tryz.ntmps42 (fun cx e=>drawn_ok ty_ok tb8_ok cx e) (some 74) rfl rfl rfl rfl (nL rfl) (nL rfl) ?_
    refine gs ?_
    refine gr ?_
    intro stop1 S1
    refine S1.gx [1] ?_
    refine gr ?_
    refine S1.inl 5 [4] [] Tryz.func76 (by decide) rfl Tryz.ntmps76 (fun cx e=>drawn_ok ty_ok tb8_ok cx e) (some 10) rfl rfl rfl rfl (nL rfl) (nL rfl) ?_
    refine gs ?_
    refine gr ?_
    intro stop2 S2
    refine S2.gx [1] ?_
    refine gr ?_
    refine S2.inl 2 [4] [] Tryz.func109 (by decide) rfl Tryz.ntmps109 (fun cx e=>drawn_ok ty_ok tb8_ok cx e) (some 7) rfl rfl rfl rfl (nL rfl) (nL rfl) ?_
    refine gs ?_
    refine gr ?_
    intro stop3 S3
    refine S3.gx [4] ?_
    refine gr ?_
    obtain ⟨q3,hq,hr⟩:=of_iter1 hr
    refine S3.sees [0,1,7,8] [(2,2),(3,3),(5,5),(9,9),(100009,100009)] [(12000910,12000910)] ?_ (Stop.iter S3 (fun s3=>⟨[(0,.c (.d (encF 1 d_I s2.1))),(1,.c (.clo 77 [.ref 2 0,.ref 3 0])),(7,.c (.d (.int .i64 (s2.1.length:Int)))),(8,.c (.d (.int .i64 s3)))],[(2,[.ref 100009 0]),(3,[.d (.int .i64 x2)]),(5,[.d (.int .i64 x0),.d (.int .i64 x2),.d (.int .i64 x1)]),(9,[.d (.int .i64 v1.1),.d (.int .i64 v1.2.1),.d (encF 2 d_II v1.2.2.1),.d (encF 1 d_LIIE v1.2.2.2.1),.d (encF 1 d_I v1.2.2.2.2.1),.d (encF 1 d_I v1.2.2.2.2.2.1),.d (encF 2 d_II v1.2.2.2.2.2.2.1),.d (.int .i64 v1.2.2.2.2.2.2.2.1),.d (.int .i64 v1.2.2.2.2.2.2.2.2.1)]),(100009,[.d (.int .i64 v1.1),.d (.int .i64 v1.2.1),.d (encF 2 d_II v1.2.2.1),.d (encF 1 d_LIIE v1.2.2.2.1),.d (encF 1 d_I v1.2.2.2.2.1),.d (encF 1 d_I v1.2.2.2.2.2.1),.d (encF 2 d_II v1.2.2.2.2.2.2.1),.d (.int .i64 v1.2.2.2.2.2.2.2.1),.d (.int .i64 v1.2.2.2.2.2.2.2.2.1),.d (encF 1 d_I s2.1),.own 12000910])],[(12000910,.owned (encF 2 d_II s2.2))]⟩) (b8_3 a1 x0 x2 x1 v1 s2) _ hq hr ?_)
    ·exact lf
    ·intro s3 hr
     unfold b8_3 at hr
     refine S3.gx [4] ?_
     refine gr ?_
     refine iW1 hr (fun hc hr=> ?_) fun hc hr=> ?_
     ·refine gr ?_
      refine S3.inl 5 [0,1,5,7,8] [.ref 2 0,.ref 3 0] Tryz.func77 (by decide) rfl Tryz.ntmps77 (fun cx e=>drawn_ok ty_ok tb8_ok cx e) (some 16) rfl rfl rfl rfl (nL rfl) (nL rfl) ?_
      refine gs ?_
      obtain ⟨hg14,hr⟩:=of_guard1 hr
      refine gr ?_
      intro stop4 S4
      refine S4.gx [] ?_
      obtain ⟨v9,hv9,hr⟩:=of_bind1 hr
      refine gb hv9 ?_
      refine gr ?_
      refine S3.gx [4] ?_
      refine gr ?_
      refine iW1 hr (fun hc hr=> ?_) fun hc hr=>D1 (S3.ss [0,1,7,8] [(2,2),(3,3),(5,5),(9,9),(100009,100009)] [(12000910,12000910)]) hr
      refine gr ?_
      replace hr:=goodC_out hr
      refine gr ?_
      refine S2.gx [1] ?_
      refine gr ?_
      refine gr ?_
      refine S1.gx [1] ?_
      refine gr ?_
      refine gr ?_
      refine S.gx [6,11,15,18,4] ?_
      refine gr ?_
      refine iW1 hr (fun hc hr=> ?_) fun hc hr=>D0 hr
      refine gr ?_
      refine iW1 hr (fun hc hr=>D0 hr) fun hc hr=> ?_
      refine gr ?_
      refine S.inl 5 [1,5,9,12,13] [] Tryz.func41 (by decide) rfl Tryz.ntmps41 (fun cx e=>drawn_ok ty_ok tb8_ok cx e) (some 87) rfl rfl rfl rfl (nL rfl) (nL rfl) ?_
      refine gs ?_
      obtain ⟨v10,hv10,hr⟩:=of_bind1 hr
      refine gb hv10 ?_
      intro stop1 S1
      refine S1.gx [4] ?_
      refine gr ?_
      refine iW1 hr (fun hc hr=> ?_) fun hc hr=> ?_
      ·refine gr ?_
       refine gr ?_
       refine S.gx [6,11,15,18,4] ?_
       exact D0 hr
      ·obtain ⟨v11,hv11,hr⟩:=of_bind1 hr
       obtain ⟨v12,hv12,hr⟩:=of_bind1 hr
       refine gb hv11 ?_
       refine gb hv12 ?_
       refine S1.prune [0,4,7,8] ?_
       refine S1.gx [] ?_
       refine gr ?_
       refine gr ?_
       refine iW1 hr (fun hc hr=> ?_) fun hc hr=> ?_
       ·refine gr ?_
        refine gr ?_
        refine S.gx [6,11,15,18,4] ?_
        exact D1 (S.ss [1,5,9,12,13] [(5,5),(9,9),(100009,100009)] [(12000910,12000910)]) hr
       ·obtain ⟨hg13,hr⟩:=of_guard1 hr
        refine gr ?_
        refine gr ?_
        refine S.gx [6,11,15,18,4] ?_
        refine gr ?_
        refine S.share 33 rfl ?_
        exact D1 (S.ss [1,5,9,12,13] [(5,5),(9,9),(100009,100009)] [(48,12000910)]) hr
     ·refine gr ?_
      replace hr:=goodC_out hr
      refine gr ?_
      refine gr ?_
      refine S2.gx [1] ?_
      refine gr ?_
      refine gr ?_
      refine S1.gx [1] ?_
      refine gr ?_
      refine gr ?_
      refine S.gx [6,11,15,18,4] ?_
      exact D0 hr
def r16 (a0 a1 a2:Int):Option (Bool):=
 some ((decide (a1≤a0)) && (decide (a0≤a2)))
@[go_sem] def T16:=qT1 qu2 false r16
theorem f16:FnFact Tryz.prog 16 T16.sp:=by
 refine vm .nil Tryz.func16 Tryz.ntmps16 fun ⟨a0,a1,a2⟩ r hr stop S=> ?_
 rw [uq3,r16] at hr
 refine S.gx [] ?_
 repeat (first | refine gA ?_ | refine gB ?_)
 exact D0 hr
def r48 (a0:Int):Option (Bool):=
 (r16 a0 200 3000).bind fun v1=>
  some v1
@[go_sem] def T48:=qT4 qu2 false r48
@[go_sem] def tb48 (k:Nat):=lk [(16,T16.sp)] k
theorem f48:FnFact Tryz.prog 48 T48.sp:=by
 refine vm (tb:=tb48) (.cons f16 .nil) Tryz.func48 Tryz.ntmps48 fun a0 r hr stop S=> ?_
 rw [uq1,r48] at hr
 refine S.gx [] ?_
 exact D0 hr
def b125_1 (a0:L_II):Bd Int Int:=fun s1=>
 if (decide (s1<(a0.length:Int)))=true then
  if 0≤s1∧s1<(a0.length:Int) then
   bindC (r48 ((a0.getD s1.toNat default).1)) fun v1=>
    if (!(!v1))=true→0≤s1∧s1<(a0.length:Int) then
     if (!(!v1))=true→(r16 ((a0.getD s1.toNat default).2) 0 1000).isSome=true then
      if ((!v1) || (!((r16 ((a0.getD s1.toNat default).2) 0 1000).getD default)))=true then
       .out (some 2)
       else if (decide (s1>0))=true then
        if 0≤s1∧s1<(a0.length:Int) then
         if 0≤IntKind.i64.wrap (s1 - 1)∧IntKind.i64.wrap (s1 - 1)<(a0.length:Int) then
          if 0≤s1∧s1<(a0.length:Int) then
           if 0≤IntKind.i64.wrap (s1 - 1)∧IntKind.i64.wrap (s1 - 1)<(a0.length:Int) then
            if ((decide ((IntKind.i64.wrap (((a0.getD s1.toNat default).1) - ((a0.getD (IntKind.i64.wrap (s1 - 1)).toNat default).1)))≤0)) || (decide ((IntKind.i64.wrap (((a0.getD s1.toNat default).2) - ((a0.getD (IntKind.i64.wrap (s1 - 1)).toNat default).2)))<0)))=true then
             .out (some 9)
             else if (decide ((IntKind.i64.wrap (2*(IntKind.i64.wrap (((a0.getD s1.toNat default).2) - ((a0.getD (IntKind.i64.wrap (s1 - 1)).toNat default).2)))))>(IntKind.i64.wrap (((a0.getD s1.toNat default).1) - ((a0.getD (IntKind.i64.wrap (s1 - 1)).toNat default).1)))))=true then
              .out (some 22)
              else .next (IntKind.i64.wrap (s1+1))
            else .out none
           else .out none
          else .out none
         else .out none
        else .next (IntKind.i64.wrap (s1+1))
      else .out none
     else .out none
   else .out none
  else .out (some 0)
def r125 (a0:L_II):Option (Int):=
 if (decide ((a0.length:Int)>6))=true then
  some 8
  else iterC (b125_1 a0) 1000000000 0
@[go_sem] def T125:=qT5 qu3 false r125
@[go_sem] def tb125 (k:Nat):=lk [(16,T16.sp),(48,T48.sp)] k
theorem f125:FnFact Tryz.prog 125 T125.sp:=by
 refine vm (tb:=tb125) (.cons f16 (.cons f48 .nil)) Tryz.func125 Tryz.ntmps125 fun a0 r hr stop S=> ?_
 rw [uq1,r125] at hr
 refine S.gx [10] ?_
 refine gr ?_
 refine iW hr (fun hc hr=>D0 hr) fun hc hr=> ?_
 refine gr ?_
 refine S.sees [0,3] [] [] ?_ (Stop.iter S (fun s1=>⟨[(0,.c (.d (encF 2 d_II a0))),(3,.c (.d (.int .i64 s1)))],[],[]⟩) (b125_1 a0) (fun q=>q=r) hr rfl ?_)
 ·exact lf
 ·intro s1 hr
  unfold b125_1 at hr
  refine S.gx [10] ?_
  refine gr ?_
  refine iW1 hr (fun hc hr=> ?_) fun hc hr=>D0 hr
  obtain ⟨hg6,hr⟩:=of_guard1 hr
  obtain ⟨v1,hv1,hr⟩:=of_bind1 hr
  obtain ⟨hg7,hr⟩:=of_guard1 hr
  obtain ⟨hg8,hr⟩:=of_guard1 hr
  try simp only [hv1,oG,oI,true_and,and_assoc]
  repeat (first | refine gG hg7 ?_ | refine gG hg8 ?_ | refine gA ?_ | refine gB ?_)
  refine iW1 hr (fun hc hr=>D0 hr) fun hc hr=> ?_
  refine gr ?_
  refine iW1 hr (fun hc hr=> ?_) fun hc hr=>D1 (S.ss [0,3] [] []) hr
  obtain ⟨hg2,hr⟩:=of_guard1 hr
  obtain ⟨hg3,hr⟩:=of_guard1 hr
  obtain ⟨hg4,hr⟩:=of_guard1 hr
  obtain ⟨hg5,hr⟩:=of_guard1 hr
  refine gr ?_
  refine S.prune [0,3,4,5] ?_
  refine S.gx [] ?_
  repeat (first | refine gA ?_ | refine gB ?_)
  exact D1 (S.ss [0,3] [] []) hr
def b160_1 (a0:L_II) (a1 a2:Int):Bd Int (Int×Int):=fun s1=>
 if (decide (s1<(a0.length:Int)))=true then
  if 0≤s1∧s1<(a0.length:Int) then
   if (decide (a1≤(IntKind.i64.wrap (((a0.getD s1.toNat default).1)*a2))))=true then
    if (s1 == 0)=true then
     if 0≤0∧0<(a0.length:Int) then
      .out (some ((a0.getD 0 default).2,1))
      else .out none
     else if 0≤IntKind.i64.wrap (s1 - 1)∧IntKind.i64.wrap (s1 - 1)<(a0.length:Int) then
      if 0≤s1∧s1<(a0.length:Int) then
       .out (some (IntKind.i64.wrap ((IntKind.i64.wrap (((a0.getD (IntKind.i64.wrap (s1 - 1)).toNat default).2)*(IntKind.i64.wrap ((IntKind.i64.wrap (((a0.getD s1.toNat default).1) - ((a0.getD (IntKind.i64.wrap (s1 - 1)).toNat default).1)))*a2))))+(IntKind.i64.wrap ((IntKind.i64.wrap (((a0.getD s1.toNat default).2) - ((a0.getD (IntKind.i64.wrap (s1 - 1)).toNat default).2)))*(IntKind.i64.wrap (a1 - (IntKind.i64.wrap (((a0.getD (IntKind.i64.wrap (s1 - 1)).toNat default).1)*a2))))))),IntKind.i64.wrap ((IntKind.i64.wrap (((a0.getD s1.toNat default).1) - ((a0.getD (IntKind.i64.wrap (s1 - 1)).toNat default).1)))*a2)))
       else .out none
      else .out none
    else .next (IntKind.i64.wrap (s1+1))
   else .out none
  else .out (if 0≤IntKind.i64.wrap ((a0.length:Int) - 1)∧IntKind.i64.wrap ((a0.length:Int) - 1)<(a0.length:Int) then
   some ((a0.getD (IntKind.i64.wrap ((a0.length:Int) - 1)).toNat default).2,1)
   else none)
def r160 (a0:L_II) (a1 a2:Int):Option (Int×Int):=
 if ((a0.length:Int) == 0)=true then
  some (0,1)
  else iterC (b160_1 a0 a1 a2) 1000000000 0
@[go_sem] def T160:=qT76 qu4 false r160
theorem f160:FnFact Tryz.prog 160 T160.sp:=by
 refine vm .nil Tryz.func160 Tryz.ntmps160 fun ⟨a0,a1,a2⟩ r hr stop S=> ?_
 rw [uq3,r160] at hr
 refine S.gx [11] ?_
 refine gr ?_
 refine iW hr (fun hc hr=>D0 hr) fun hc hr=> ?_
 refine gr ?_
 refine S.sees [0,1,2,8] [] [] ?_ (Stop.iter S (fun s1=>⟨[(0,.c (.d (encF 2 d_II a0))),(1,.c (.d (.int .i64 a1))),(2,.c (.d (.int .i64 a2))),(8,.c (.d (.int .i64 s1)))],[],[]⟩) (b160_1 a0 a1 a2) (fun q=>q=r) hr rfl ?_)
 ·exact lf
 ·intro s1 hr
  unfold b160_1 at hr
  refine S.gx [11] ?_
  refine gr ?_
  refine iW1 hr (fun hc hr=> ?_) fun hc hr=>D0 hr
  obtain ⟨hg4,hr⟩:=of_guard1 hr
  refine gr ?_
  refine iW1 hr (fun hc hr=> ?_) fun hc hr=>D1 (S.ss [0,1,2,8] [] []) hr
  refine gr ?_
  refine iW1 hr (fun hc hr=>D0 hr) fun hc hr=> ?_
  obtain ⟨hg2,hr⟩:=of_guard1 hr
  obtain ⟨hg3,hr⟩:=of_guard1 hr
  refine gr ?_
  refine S.prune [1,2,9,10,11] ?_
  refine S.gx [] ?_
  exact D0 hr
def b126_1 (a0 a1:L_II):Bd Int Bool:=fun s1=>
 if (decide (s1<((a0++a1).length:Int)))=true then
  if 0≤s1∧s1<((a0++a1).length:Int) then
   bindC (r160 a0 (((a0++a1).getD s1.toNat default).1) 1) fun v1=>
    if 0≤s1∧s1<((a0++a1).length:Int) then
     bindC (r160 a1 (((a0++a1).getD s1.toNat default).1) 1) fun v2=>
      if (decide ((IntKind.i64.wrap (v1.1*v2.2))<(IntKind.i64.wrap (v2.1*v1.2))))=true then
       .out (some true)
       else .next (IntKind.i64.wrap (s1+1))
     else .out none
   else .out none
  else .out (some false)
def r126 (a0 a1:L_II):Option (Bool):=
 if (0+a0.length)*16≤140737488355328∧0+a0.length≤9223372036854775807 then
  if (a0.length+a1.length)*16≤140737488355328∧a0.length+a1.length≤9223372036854775807 then
   iterC (b126_1 a0 a1) 1000000000 0
   else none
  else none
@[go_sem] def T126:=qT11 qu2 false r126
@[go_sem] def tb126 (k:Nat):=lk [(160,T160.sp)] k
theorem f126:FnFact Tryz.prog 126 T126.sp:=by
 refine vm (tb:=tb126) (.cons f160 .nil) Tryz.func126 Tryz.ntmps126 fun ⟨a0,a1⟩ r hr stop S=> ?_
 rw [uq2,r126] at hr
 refine S.gx [4,8] ?_
 obtain ⟨hg5,hr⟩:=of_guard0 hr
 obtain ⟨hg6,hr⟩:=of_guard0 hr
 refine gr ?_
 refine S.sees [0,1,5,6] [] [(15,15)] ?_ (Stop.iter S (fun s1=>⟨[(0,.c (.d (encF 2 d_II a0))),(1,.c (.d (encF 2 d_II a1))),(5,.c (.own 15)),(6,.c (.d (.int .i64 s1)))],[],[(15,.owned (encF 2 d_II (a0++a1)))]⟩) (b126_1 a0 a1) (fun q=>q=r) hr rfl ?_)
 ·exact lf
 ·intro s1 hr
  unfold b126_1 at hr
  refine S.gx [4,8] ?_
  refine gr ?_
  refine iW1 hr (fun hc hr=> ?_) fun hc hr=>D0 hr
  obtain ⟨hg3,hr⟩:=of_guard1 hr
  obtain ⟨v1,hv1,hr⟩:=of_bind1 hr
  obtain ⟨hg4,hr⟩:=of_guard1 hr
  obtain ⟨v2,hv2,hr⟩:=of_bind1 hr
  refine gb hv1 ?_
  refine gb hv2 ?_
  refine iW1 hr (fun hc hr=> ?_) fun hc hr=> ?_
  ·refine gr ?_
   refine S.prune [] ?_
   refine S.gx [4] ?_
   exact D0 hr
  ·refine gr ?_
   refine S.prune [0,1,5,6] ?_
   refine S.gx [8] ?_
   exact D1 (S.ss [0,1,5,6] [] [(15,15)]) hr
def b90_2 (x1:L_LIIE):Bd Int (Int×Int):=fun s2=>
 if (decide (s2<(x1.length:Int)))=true then
  if 0≤s2∧s2<(x1.length:Int) then
   bindC (r125 (x1.getD s2.toNat default)) fun v10=>
    if (v10 != 0)=true then
     .out (some (s2,v10))
     else if (decide (s2>0))=true→0≤s2∧s2<(x1.length:Int) then
      if (decide (s2>0))=true→0≤IntKind.i64.wrap (s2 - 1)∧IntKind.i64.wrap (s2 - 1)<(x1.length:Int) then
       if (decide (s2>0))=true→(r126 (x1.getD s2.toNat default) (x1.getD (IntKind.i64.wrap (s2 - 1)).toNat default)).isSome=true then
        if ((decide (s2>0)) && ((r126 (x1.getD s2.toNat default) (x1.getD (IntKind.i64.wrap (s2 - 1)).toNat default)).getD default))=true then
         .out (some (s2,13))
         else .next (IntKind.i64.wrap (s2+1))
        else .out none
       else .out none
      else .out none
   else .out none
  else .out (some (0,0))
def b90_1 (x0:L_II) (x1:L_LIIE):Bd Int (Int×Int):=fun s1=>
 if (decide (s1<(x0.length:Int)))=true then
  if 0≤s1∧s1<(x0.length:Int) then
   bindC (r16 ((x0.getD s1.toNat default).1) 0 1000000) fun v2=>
    if (!(!v2))=true→0≤s1∧s1<(x0.length:Int) then
     if (!(!v2))=true→(r48 ((x0.getD s1.toNat default).2)).isSome=true then
      if ((!v2) || (!((r48 ((x0.getD s1.toNat default).2)).getD default)))=true then
       .out (some (s1,2))
       else if (decide (s1>0))=true then
        if 0≤s1∧s1<(x0.length:Int) then
         if 0≤IntKind.i64.wrap (s1 - 1)∧IntKind.i64.wrap (s1 - 1)<(x0.length:Int) then
          if 0≤s1∧s1<(x0.length:Int) then
           if 0≤IntKind.i64.wrap (s1 - 1)∧IntKind.i64.wrap (s1 - 1)<(x0.length:Int) then
            if ((decide ((IntKind.i64.wrap (((x0.getD s1.toNat default).1) - ((x0.getD (IntKind.i64.wrap (s1 - 1)).toNat default).1)))≤0)) || (decide ((IntKind.i64.wrap (((x0.getD s1.toNat default).2) - ((x0.getD (IntKind.i64.wrap (s1 - 1)).toNat default).2)))≤0)))=true then
             .out (some (s1,9))
             else if (decide ((IntKind.i64.wrap (((x0.getD s1.toNat default).2) - ((x0.getD (IntKind.i64.wrap (s1 - 1)).toNat default).2)))>(IntKind.i64.wrap (((x0.getD s1.toNat default).1) - ((x0.getD (IntKind.i64.wrap (s1 - 1)).toNat default).1)))))=true then
              .out (some (s1,22))
              else .next (IntKind.i64.wrap (s1+1))
            else .out none
           else .out none
          else .out none
         else .out none
        else .next (IntKind.i64.wrap (s1+1))
      else .out none
     else .out none
   else .out none
  else .out (if (decide ((x1.length:Int)>4))=true then
   some (0,8)
   else iterC (b90_2 x1) 1000000000 0)
def r90 (x3 x2:Int) (x0:L_II) (x1:L_LIIE):Option (Int×Int):=
 (r16 x3 1 12).bind fun v1=>
  if (!(!v1))=true→(r16 x2 0 500).isSome=true then
   if ((!v1) || (!((r16 x2 0 500).getD default)))=true then
    some (0,2)
    else if (decide ((x0.length:Int)<2))=true then
     some (0,10)
     else if (decide ((x0.length:Int)>8))=true then
      some (0,8)
      else iterC (b90_1 x0 x1) 1000000000 0
   else none
@[go_sem] def T90:=qT12 qu4 false r90
@[go_sem] def tb90 (k:Nat):=lk [(16,T16.sp),(48,T48.sp),(125,T125.sp),(126,T126.sp)] k
theorem f90:FnFact Tryz.prog 90 T90.sp:=by
 refine vm (tb:=tb90) (.cons f16 (.cons f48 (.cons f125 (.cons f126 .nil)))) Tryz.func90 Tryz.ntmps90 fun ⟨x3,x2,x0,x1⟩ r hr stop S=> ?_
 rw [uq4,r90] at hr
 refine S.gx [14,22,27] ?_
 obtain ⟨v1,hv1,hr⟩:=of_bind0 hr
 obtain ⟨hg15,hr⟩:=of_guard0 hr
 try simp only [hv1,oG,oI,true_and,and_assoc]
 repeat (first | refine gG hg15 ?_ | refine gA ?_ | refine gB ?_)
 refine iW hr (fun hc hr=>D0 hr) fun hc hr=> ?_
 refine gr ?_
 refine iW hr (fun hc hr=>D0 hr) fun hc hr=> ?_
 refine gr ?_
 refine iW hr (fun hc hr=>D0 hr) fun hc hr=> ?_
 refine gr ?_
 refine S.sees [1,4] [(1,1)] [] ?_ (Stop.iter S (fun s1=>⟨[(1,.c (.ref 1 0)),(4,.c (.d (.int .i64 s1)))],[(1,[.d (.int .i64 x3),.d (.int .i64 x2),.d (encF 2 d_II x0),.d (encF 1 d_LIIE x1)])],[]⟩) (b90_1 x0 x1) (fun q=>q=r) hr rfl ?_)
 ·exact lf
 ·intro s1 hr
  unfold b90_1 at hr
  refine S.gx [14,22,27] ?_
  refine gr ?_
  refine iW1 hr (fun hc hr=> ?_) fun hc hr=> ?_
  ·obtain ⟨hg7,hr⟩:=of_guard1 hr
   obtain ⟨v2,hv2,hr⟩:=of_bind1 hr
   obtain ⟨hg8,hr⟩:=of_guard1 hr
   obtain ⟨hg9,hr⟩:=of_guard1 hr
   try simp only [hv2,oG,oI,true_and,and_assoc]
   repeat (first | refine gG hg8 ?_ | refine gG hg9 ?_ | refine gA ?_ | refine gB ?_)
   refine iW1 hr (fun hc hr=>D0 hr) fun hc hr=> ?_
   refine gr ?_
   refine iW1 hr (fun hc hr=> ?_) fun hc hr=>D1 (S.ss [1,4] [(1,1)] []) hr
   obtain ⟨hg3,hr⟩:=of_guard1 hr
   obtain ⟨hg4,hr⟩:=of_guard1 hr
   obtain ⟨hg5,hr⟩:=of_guard1 hr
   obtain ⟨hg6,hr⟩:=of_guard1 hr
   refine gr ?_
   refine S.prune [1,4,5,6] ?_
   refine S.gx [22,27] ?_
   repeat (first | refine gA ?_ | refine gB ?_)
   exact D1 (S.ss [1,4] [(1,1)] []) hr
  ·refine gr ?_
   have hr:=of_out0 hr
   refine gr ?_
   refine iW hr (fun hc hr=>D0 hr) fun hc hr=> ?_
   refine gr ?_
   refine S.sees [1,7] [(1,1)] [] ?_ (Stop.iter S (fun s2=>⟨[(1,.c (.ref 1 0)),(7,.c (.d (.int .i64 s2)))],[(1,[.d (.int .i64 x3),.d (.int .i64 x2),.d (encF 2 d_II x0),.d (encF 1 d_LIIE x1)])],[]⟩) (b90_2 x1) (fun q=>q=r) hr rfl ?_)
   ·exact lf
   ·intro s2 hr
    unfold b90_2 at hr
    refine S.gx [14,22,27] ?_
    refine gr ?_
    refine iW1 hr (fun hc hr=> ?_) fun hc hr=>D0 hr
    obtain ⟨hg14,hr⟩:=of_guard1 hr
    obtain ⟨v10,hv10,hr⟩:=of_bind1 hr
    refine gb hv10 ?_
    refine iW1 hr (fun hc hr=>D0 hr) fun hc hr=> ?_
    obtain ⟨hg11,hr⟩:=of_guard1 hr
    obtain ⟨hg12,hr⟩:=of_guard1 hr
    obtain ⟨hg13,hr⟩:=of_guard1 hr
    repeat (first | refine gG hg11 ?_ | refine gG hg12 ?_ | refine gG hg13 ?_ | refine gA ?_ | refine gB ?_)
    refine iW1 hr (fun hc hr=> ?_) fun hc hr=> ?_
    ·refine gr ?_
     refine S.prune [7] ?_
     refine S.gx [14,22] ?_
     exact D0 hr
    ·refine gr ?_
     refine S.prune [1,7] ?_
     refine S.gx [14,27] ?_
     exact D1 (S.ss [1,7] [(1,1)] []) hr
def r57 (x0 x1:Int) (x2:L_II) (x3:L_LIIE):Option (Int):=
 (r90 x0 x1 x2 x3).bind fun v1=>
  some v1.2
@[go_sem] def T57:=qT12 qu3 false r57
@[go_sem] def tb57 (k:Nat):=lk [(90,T90.sp)] k
theorem f57:FnFact Tryz.prog 57 T57.sp:=by
 refine vm (tb:=tb57) (.cons f90 .nil) Tryz.func57 Tryz.ntmps57 fun ⟨x0,x1,x2,x3⟩ r hr stop S=> ?_
 rw [uq4,r57] at hr
 refine S.gx [] ?_
 exact D0 hr
def r113 (x1 x2:Int) (x0:L_II) (x3:L_LIIE) (a1:Int):Option (Bool):=
 if 0≤0∧0<(x0.length:Int) then
  if 0≤IntKind.i64.wrap ((x0.length:Int) - 1)∧IntKind.i64.wrap ((x0.length:Int) - 1)<(x0.length:Int) then
   (r16 a1 ((x0.getD 0 default).1) ((x0.getD (IntKind.i64.wrap ((x0.length:Int) - 1)).toNat default).1)).bind fun v1=>
    some v1
   else none
  else none
@[go_sem] def T113:=qT23 qu2 false r113
@[go_sem] def tb113 (k:Nat):=lk [(16,T16.sp)] k
theorem f113:FnFact Tryz.prog 113 T113.sp:=by
 refine vm (tb:=tb113) (.cons f16 .nil) Tryz.func113 Tryz.ntmps113 fun ⟨x1,x2,x0,x3,a1⟩ r hr stop S=> ?_
 rw [uq5,r113] at hr
 refine S.gx [] ?_
 exact D0 hr
end Go.Proofs.YtofkgmldcjagmaaGreatDoor

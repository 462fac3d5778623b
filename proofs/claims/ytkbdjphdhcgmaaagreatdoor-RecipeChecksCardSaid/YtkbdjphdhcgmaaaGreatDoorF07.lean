/- Contracts of functions, written by wip/dec. -/
import Derived.Test.YtkbdjphdhcgmaaaGreatDoorF00
import Derived.Test.YtkbdjphdhcgmaaaGreatDoorF05
import Derived.Test.YtkbdjphdhcgmaaaGreatDoorF06
set_option linter.unusedVariables false
set_option linter.unusedSimpArgs false
set_option linter.constructorNameAsVariable false
set_option maxHeartbeats 4000000
set_option maxRecDepth 20000
namespace Go.Proofs.YtkbdjphdhcgmaaaGreatDoor
open Go.Abs
section
variable {β:Type} [Inhabited β] (u:β→List RV) (al:Bool)
def qw46 (a0 a1 a2 a3 a4 a5 a6:Int):List Arg:=[.agg [.int .i64 a0,.int .i64 a1,.int .i64 a2,.int .i64 a3,.int .i64 a4,.int .i64 a5,.int .i64 a6]]
def qd46:List Arg→Int×Int×Int×Int×Int×Int×Int
 | [.agg [c0,c1,c2,c3,c4,c5,c6]]=>(dInt c0,dInt c1,dInt c2,dInt c3,dInt c4,dInt c5,dInt c6)
 | _=>default
def qT46 (r:Int→Int→Int→Int→Int→Int→Int→Option β):=mkT (u7 qw46) qd46 (u7 r) u al
attribute [go_sem] qw46 qd46 qT46
def qw47 (a0 a1 a2 a3 a4 a5 a6 a7 a8 a9 a10 a11 a12 a13:Int):List Arg:=[.agg [.int .i64 a0,.int .i64 a1,.int .i64 a2,.int .i64 a3,.int .i64 a4,.int .i64 a5,.int .i64 a6,.int .i64 a7,.int .i64 a8,.int .i64 a9,.int .i64 a10,.int .i64 a11,.int .i64 a12,.int .i64 a13]]
def qd47:List Arg→Int×Int×Int×Int×Int×Int×Int×Int×Int×Int×Int×Int×Int×Int
 | [.agg [c0,c1,c2,c3,c4,c5,c6,c7,c8,c9,c10,c11,c12,c13]]=>(dInt c0,dInt c1,dInt c2,dInt c3,dInt c4,dInt c5,dInt c6,dInt c7,dInt c8,dInt c9,dInt c10,dInt c11,dInt c12,dInt c13)
 | _=>default
def qT47 (r:Int→Int→Int→Int→Int→Int→Int→Int→Int→Int→Int→Int→Int→Int→Option β):=mkT (u14 qw47) qd47 (u14 r) u al
attribute [go_sem] qw47 qd47 qT47
def qw48 (a0 a1 a2 a3 a4:Int):List Arg:=[.agg [.int .i64 a0,.int .i64 a1,.int .i64 a2,.int .i64 a3],.ptr [.int .i64 a4]]
def qd48:List Arg→Int×Int×Int×Int×Int
 | [.agg [c0,c1,c2,c3],.ptr [c4]]=>(dInt c0,dInt c1,dInt c2,dInt c3,dInt c4)
 | _=>default
def qT48 (r:Int→Int→Int→Int→Int→Option β):=mkT (u5 qw48) qd48 (u5 r) u al
attribute [go_sem] qw48 qd48 qT48
def qw50 (a0 a1 a2 a3 a4 a5:Int):List Arg:=[.c (.int .i64 a0),.c (.int .i64 a1),.ptr [.int .i64 a2,.int .i64 a3,.int .i64 a4,.int .i64 a5]]
def qd50:List Arg→Int×Int×Int×Int×Int×Int
 | [.c c0,.c c1,.ptr [c2,c3,c4,c5]]=>(dInt c0,dInt c1,dInt c2,dInt c3,dInt c4,dInt c5)
 | _=>default
def qT50 (r:Int→Int→Int→Int→Int→Int→Option β):=mkT (u6 qw50) qd50 (u6 r) u al
attribute [go_sem] qw50 qd50 qT50
def qw51 (a0 a1 a2 a3 a4 a5 a6 a7 a8 a9 a10 a11 a12 a13 a14 a15 a16 a17:Int):List Arg:=[.agg [.int .i64 a0,.int .i64 a1,.int .i64 a2,.int .i64 a3,.int .i64 a4,.int .i64 a5,.int .i64 a6,.int .i64 a7,.int .i64 a8,.int .i64 a9,.int .i64 a10,.int .i64 a11,.int .i64 a12,.int .i64 a13],.agg [.int .i64 a14,.int .i64 a15,.int .i64 a16,.int .i64 a17]]
def qd51:List Arg→Int×Int×Int×Int×Int×Int×Int×Int×Int×Int×Int×Int×Int×Int×Int×Int×Int×Int
 | [.agg [c0,c1,c2,c3,c4,c5,c6,c7,c8,c9,c10,c11,c12,c13],.agg [c14,c15,c16,c17]]=>(dInt c0,dInt c1,dInt c2,dInt c3,dInt c4,dInt c5,dInt c6,dInt c7,dInt c8,dInt c9,dInt c10,dInt c11,dInt c12,dInt c13,dInt c14,dInt c15,dInt c16,dInt c17)
 | _=>default
def qT51 (r:Int→Int→Int→Int→Int→Int→Int→Int→Int→Int→Int→Int→Int→Int→Int→Int→Int→Int→Option β):=mkT (u18 qw51) qd51 (u18 r) u al
attribute [go_sem] qw51 qd51 qT51
def qu25 (v:L_LIIE×Int):List RV:=[.c (.own (encF 1 d_LIIE v.1)),.c (.d (.int .i64 v.2))]
attribute [go_sem] qu25
def qu27 (v:Int×Int×Int×Int×Int×Int×Int×Int×Int×Int×Int×Int×Int×Int×Int):List RV:=[.agg [.d (.int .i64 v.1),.d (.int .i64 v.2.1),.d (.int .i64 v.2.2.1),.d (.int .i64 v.2.2.2.1),.d (.int .i64 v.2.2.2.2.1),.d (.int .i64 v.2.2.2.2.2.1),.d (.int .i64 v.2.2.2.2.2.2.1),.d (.int .i64 v.2.2.2.2.2.2.2.1),.d (.int .i64 v.2.2.2.2.2.2.2.2.1),.d (.int .i64 v.2.2.2.2.2.2.2.2.2.1),.d (.int .i64 v.2.2.2.2.2.2.2.2.2.2.1),.d (.int .i64 v.2.2.2.2.2.2.2.2.2.2.2.1),.d (.int .i64 v.2.2.2.2.2.2.2.2.2.2.2.2.1),.d (.int .i64 v.2.2.2.2.2.2.2.2.2.2.2.2.2.1)],.c (.d (.int .i64 v.2.2.2.2.2.2.2.2.2.2.2.2.2.2))]
attribute [go_sem] qu27
def qu28 (v:Int×Int×Int×Int×Int×Int×Int×Int):List RV:=[.agg [.d (.int .i64 v.1),.d (.int .i64 v.2.1),.d (.int .i64 v.2.2.1),.d (.int .i64 v.2.2.2.1),.d (.int .i64 v.2.2.2.2.1),.d (.int .i64 v.2.2.2.2.2.1),.d (.int .i64 v.2.2.2.2.2.2.1),.d (.int .i64 v.2.2.2.2.2.2.2)]]
attribute [go_sem] qu28
def qu29 (v:(Option (Int×Int×Int×Int))):List RV:=[.c (.d (encP d_IIII v))]
attribute [go_sem] qu29
end
def b83_2 (x0 x1:Int) (x2:L_II) (x3:L_LIIE) (x4 x5:L_I) (x6:L_II) (x7 x8:Int) (v2:L_LIELIE×Int) (s1:Int×(List (L_II))):Bd (Int×(List (L_II))) (Ctl (Int×(List (L_II))) (L_LIIE×Int)):=fun s2=>
 if (decide (s2.1<(s1.2.length:Int)))=true then
  if 0≤s2.1∧s2.1<(s2.2.length:Int) then
   if 0≤s2.1∧s2.1<(((v2.1.getD s1.1.toNat default).1).length:Int) then
    if 0≤s2.1∧s2.1<(((v2.1.getD s1.1.toNat default).2).length:Int) then
     bindC (r123 x0 x1 x2 x3 x4 x5 x6 x7 x8 (((v2.1.getD s1.1.toNat default).1).getD s2.1.toNat default) (((v2.1.getD s1.1.toNat default).2).getD s2.1.toNat default)) fun v3=>
      if ((s2.2.getD s2.1.toNat default).length+1)*16≤140737488355328∧(s2.2.getD s2.1.toNat default).length+1≤9223372036854775807 then
       if 0≤s2.1∧s2.1<(s2.2.length:Int) then
        .next (IntKind.i64.wrap (s2.1+1),s2.2.set s2.1.toNat ((s2.2.getD s2.1.toNat default)++[(v3.1,v3.2)]))
        else .out none
       else .out none
     else .out none
    else .out none
   else .out none
  else .out (some (.next (IntKind.i64.wrap (s1.1+1),s2.2)))
def b83_1 (x0 x1:Int) (x2:L_II) (x3:L_LIIE) (x4 x5:L_I) (x6:L_II) (x7 x8:Int) (v2:L_LIELIE×Int):Bd (Int×(List (L_II))) (L_LIIE×Int):=fun s1=>
 if (decide (s1.1<(v2.1.length:Int)))=true then
  if 0≤s1.1∧s1.1<(v2.1.length:Int) then
   (iterC (b83_2 x0 x1 x2 x3 x4 x5 x6 x7 x8 v2 s1) 1000000000 (0,s1.2)).getD (.out none)
   else .out none
  else .out (some (s1.2,0))
def r83 (x0 x1:Int) (x2:L_II) (x3:L_LIIE) (x4 x5:L_I) (x6:L_II) (x7 x8:Int) (a1:L_II):Option (L_LIIE×Int):=
 (r122 x0 x1 x2 x3 x4 x5 x6 x7 x8 a1).bind fun v1=>
  (r121 x0 x1 x2 x3 x4 x5 v1).bind fun v2=>
   if (v2.2 != 0)=true then
    some ([],v2.2)
    else if 0≤x0∧x0≤x0∧x0≤9223372036854775807∧24*x0≤281474976710656 then
     iterC (b83_1 x0 x1 x2 x3 x4 x5 x6 x7 x8 v2) 1000000000 (0,List.replicate x0.toNat [])
     else none
@[go_sem] def T83:=qT39 qu25 true r83
@[go_sem] def tb83 (k:Nat):=lk [(121,T121.sp),(122,T122.sp),(123,T123.sp)] k
theorem f83:FnFact Tryz.prog 83 T83.sp:=by
 refine vm (tb:=tb83) (.cons f121 (.cons f122 (.cons f123 .nil))) Tryz.func83 Tryz.ntmps83 fun ⟨x0,x1,x2,x3,x4,x5,x6,x7,x8,a1⟩ r hr stop S=> ?_
 rw [uq10,r83] at hr
 refine S.gx [14] ?_
 obtain ⟨v1,hv1,hr⟩:=of_bind0 hr
 obtain ⟨v2,hv2,hr⟩:=of_bind0 hr
 refine gb hv1 ?_
 refine gb hv2 ?_
 refine iW hr (fun hc hr=>D0 hr) fun hc hr=> ?_
 obtain ⟨hg10,hr⟩:=of_guard0 hr
 refine gr ?_
 refine S.toDeep 32 2 32 rfl rfl rfl (of_eq_true (allNl_rep _ _)) ?_
 refine S.sees [2,8,33,34,35] [(2,2)] [(32,32),(22,22)] ?_ (Stop.iter S (fun s1=>⟨[(2,.c (.ref 2 0)),(8,.c (.own 32)),(33,.c (.own 22)),(34,.c (.d (.int .i64 (v2.1.length:Int)))),(35,.c (.d (.int .i64 s1.1)))],[(2,[.d (.int .i64 x0),.d (.int .i64 x1),.d (encF 2 d_II x2),.d (encF 1 d_LIIE x3),.d (encF 1 d_I x4),.d (encF 1 d_I x5),.d (encF 2 d_II x6),.d (.int .i64 x7),.d (.int .i64 x8)])],[(32,.deep (encF 1 d_LIIE s1.2)),(22,.owned (encF 2 d_LIELIE v2.1))]⟩) (b83_1 x0 x1 x2 x3 x4 x5 x6 x7 x8 v2) (fun q=>q=r) hr rfl ?_)
 ·exact lf
 ·intro s1 hr
  unfold b83_1 at hr
  refine S.gx [14] ?_
  refine gr ?_
  refine iW1 hr (fun hc hr=> ?_) fun hc hr=> ?_
  ·obtain ⟨hg9,hr⟩:=of_guard1 hr
   refine gr ?_
   obtain ⟨q2,hq,hr⟩:=of_iter1 hr
   refine S.sees [2,8,10,33,34,35,40,41] [(2,2),(10,10)] [(32,32),(22,22)] ?_ (Stop.iter S (fun s2=>⟨[(2,.c (.ref 2 0)),(8,.c (.own 32)),(10,.c (.ref 10 0)),(33,.c (.own 22)),(34,.c (.d (.int .i64 (v2.1.length:Int)))),(35,.c (.d (.int .i64 s1.1))),(40,.c (.d (.int .i64 (s1.2.length:Int)))),(41,.c (.d (.int .i64 s2.1)))],[(2,[.d (.int .i64 x0),.d (.int .i64 x1),.d (encF 2 d_II x2),.d (encF 1 d_LIIE x3),.d (encF 1 d_I x4),.d (encF 1 d_I x5),.d (encF 2 d_II x6),.d (.int .i64 x7),.d (.int .i64 x8)]),(10,[.d (encF 1 d_I ((v2.1.getD s1.1.toNat default).1)),.d (encF 1 d_I ((v2.1.getD s1.1.toNat default).2))])],[(32,.deep (encF 1 d_LIIE s2.2)),(22,.owned (encF 2 d_LIELIE v2.1))]⟩) (b83_2 x0 x1 x2 x3 x4 x5 x6 x7 x8 v2 s1) _ hq hr ?_)
   ·exact lf
   ·intro s2 hr
    unfold b83_2 at hr
    refine S.gx [14] ?_
    refine gr ?_
    refine iW1 hr (fun hc hr=>D1 (S.ss [2,8,10,33,34,35,40,41] [(2,2),(10,10)] [(32,32),(22,22)]) hr) fun hc hr=> ?_
    refine gr ?_
    replace hr:=goodC_out hr
    exact D1 (S.ss [2,8,33,34,35] [(2,2)] [(32,32),(22,22)]) hr
  ·refine gr ?_
   have hr:=of_out0 hr
   refine gr ?_
   refine S.undeep 32 (encF 1 d_LIIE s1.2) rfl ?_ ?_
   ·exact lf
   refine S.gx [] ?_
   exact D0 hr
def r124 (x5 x0 x1 x2 x3 x4 x6:Int):Option (Int):=
 (r172 x5).bind fun v1=>
  if v1=true→(r172 x0).isSome=true then
   if (v1 && ((r172 x0).getD default))=true→(r172 x1).isSome=true then
    if ((v1 && ((r172 x0).getD default)) && ((r172 x1).getD default))=true→(r172 x2).isSome=true then
     if (((v1 && ((r172 x0).getD default)) && ((r172 x1).getD default)) && ((r172 x2).getD default))=true→(r172 x3).isSome=true then
      if ((((v1 && ((r172 x0).getD default)) && ((r172 x1).getD default)) && ((r172 x2).getD default)) && ((r172 x3).getD default))=true→(r166 x4 0 100000).isSome=true then
       if (((((v1 && ((r172 x0).getD default)) && ((r172 x1).getD default)) && ((r172 x2).getD default)) && ((r172 x3).getD default)) && ((r166 x4 0 100000).getD default))=true→(r166 x6 0 1000000).isSome=true then
        if (!((((((v1 && ((r172 x0).getD default)) && ((r172 x1).getD default)) && ((r172 x2).getD default)) && ((r172 x3).getD default)) && ((r166 x4 0 100000).getD default)) && ((r166 x6 0 1000000).getD default)))=true then
         some 2
         else (r129 ((IntKind.i64.wrap ((IntKind.i64.wrap ((IntKind.i64.wrap (x5+x0))+x1))+x2)) == 1000000) 3).bind fun v2=>
          some v2
        else none
       else none
      else none
     else none
    else none
   else none
@[go_sem] def T124:=qT46 qu3 false r124
@[go_sem] def tb124 (k:Nat):=lk [(129,T129.sp),(166,T166.sp),(172,T172.sp)] k
theorem f124:FnFact Tryz.prog 124 T124.sp:=by
 refine vm (tb:=tb124) (.cons f129 (.cons f166 (.cons f172 .nil))) Tryz.func124 Tryz.ntmps124 fun ⟨x5,x0,x1,x2,x3,x4,x6⟩ r hr stop S=> ?_
 rw [uq7,r124] at hr
 refine S.gx [2] ?_
 obtain ⟨v1,hv1,hr⟩:=of_bind0 hr
 obtain ⟨hg3,hr⟩:=of_guard0 hr
 obtain ⟨hg4,hr⟩:=of_guard0 hr
 obtain ⟨hg5,hr⟩:=of_guard0 hr
 obtain ⟨hg6,hr⟩:=of_guard0 hr
 obtain ⟨hg7,hr⟩:=of_guard0 hr
 obtain ⟨hg8,hr⟩:=of_guard0 hr
 try simp only [hv1,oG,oI,true_and,and_assoc]
 repeat (first | refine gG hg3 ?_ | refine gG hg4 ?_ | refine gG hg5 ?_ | refine gG hg6 ?_ | refine gG hg7 ?_ | refine gG hg8 ?_ | refine gA ?_ | refine gB ?_)
 refine S.prune [1,3] ?_
 refine S.gx [] ?_
 exact D0 hr
def r173 (a0:Int):Option (Int×Int):=
 some (a0,a0)
@[go_sem] def T173:=qT4 qu7 false r173
theorem f173:FnFact Tryz.prog 173 T173.sp:=by
 refine vm .nil Tryz.func173 Tryz.ntmps173 fun a0 r hr stop S=> ?_
 rw [uq1,r173] at hr
 refine S.gx [] ?_
 exact D0 hr
def r125 (x0 x1 x2 x3 x4 x5 x6:Int):Option (Int×Int×Int×Int×Int×Int×Int×Int×Int×Int×Int×Int×Int×Int):=
 (r173 x0).bind fun v1=>
  (r173 x1).bind fun v2=>
   (r173 x2).bind fun v3=>
    (r173 x3).bind fun v4=>
     (r173 x4).bind fun v5=>
      (r173 x5).bind fun v6=>
       (r173 x6).bind fun v7=>
        some (v1.1,v1.2,v2.1,v2.2,v3.1,v3.2,v4.1,v4.2,v5.1,v5.2,v6.1,v6.2,v7.1,v7.2)
@[go_sem] def T125:=qT46 qu26 false r125
@[go_sem] def tb125 (k:Nat):=lk [(173,T173.sp)] k
theorem f125:FnFact Tryz.prog 125 T125.sp:=by
 refine vm (tb:=tb125) (.cons f173 .nil) Tryz.func125 Tryz.ntmps125 fun ⟨x0,x1,x2,x3,x4,x5,x6⟩ r hr stop S=> ?_
 rw [uq7,r125] at hr
 refine S.gx [] ?_
 exact D0 hr
def r84 (x0 x1 x2 x3 x4 x5 x6:Int):Option (Int×Int×Int×Int×Int×Int×Int×Int×Int×Int×Int×Int×Int×Int×Int):=
 (r124 x0 x1 x2 x3 x4 x5 x6).bind fun v1=>
  if (v1 != 0)=true then
   some (0,0,0,0,0,0,0,0,0,0,0,0,0,0,v1)
   else (r125 x0 x1 x2 x3 x4 x5 x6).bind fun v2=>
    some (v2.1,v2.2.1,v2.2.2.1,v2.2.2.2.1,v2.2.2.2.2.1,v2.2.2.2.2.2.1,v2.2.2.2.2.2.2.1,v2.2.2.2.2.2.2.2.1,v2.2.2.2.2.2.2.2.2.1,v2.2.2.2.2.2.2.2.2.2.1,v2.2.2.2.2.2.2.2.2.2.2.1,v2.2.2.2.2.2.2.2.2.2.2.2.1,v2.2.2.2.2.2.2.2.2.2.2.2.2.1,v2.2.2.2.2.2.2.2.2.2.2.2.2.2,0)
@[go_sem] def T84:=qT46 qu27 false r84
@[go_sem] def tb84 (k:Nat):=lk [(124,T124.sp),(125,T125.sp)] k
theorem f84:FnFact Tryz.prog 84 T84.sp:=by
 refine vm (tb:=tb84) (.cons f124 (.cons f125 .nil)) Tryz.func84 Tryz.ntmps84 fun ⟨x0,x1,x2,x3,x4,x5,x6⟩ r hr stop S=> ?_
 rw [uq7,r84] at hr
 refine S.gx [] ?_
 exact D0 hr
def r127 (x0:L_IIII) (x1:L_IIIII) (x2:L_III) (x3:L_II) (x4 x5 x6 x7:Int):Option (Int):=
 (r119 x0 x1 x2 x3 x4 x5 x6 x7).bind fun v1=>
  some v1.2
@[go_sem] def T127:=qT35 qu3 false r127
@[go_sem] def tb127 (k:Nat):=lk [(119,T119.sp)] k
theorem f127:FnFact Tryz.prog 127 T127.sp:=by
 refine vm (tb:=tb127) (.cons f119 .nil) Tryz.func127 Tryz.ntmps127 fun ⟨x0,x1,x2,x3,x4,x5,x6,x7⟩ r hr stop S=> ?_
 rw [uq8,r127] at hr
 refine S.gx [] ?_
 exact D0 hr
def r175 (x0 x1 x2 x3 x4 x5 x6 x7 x8 x9 x10 x11 x12 x13:Int):Option (Int×Int×Int×Int×Int×Int×Int×Int):=
 some (x0,x1,x2,x3,x4,x5,x6,x7)
@[go_sem] def T175:=qT47 qu28 false r175
theorem f175:FnFact Tryz.prog 175 T175.sp:=by
 refine vm .nil Tryz.func175 Tryz.ntmps175 fun ⟨x0,x1,x2,x3,x4,x5,x6,x7,x8,x9,x10,x11,x12,x13⟩ r hr stop S=> ?_
 rw [uq14,r175] at hr
 refine S.gx [] ?_
 exact D0 hr
def r128 (x7 x0 x8 x1 x9 x2 x10 x3 x11 x4 x12 x5 x13 x6:Int):Option (Int):=
 (r166 x7 0 1000000).bind fun v1=>
  if v1=true→(r166 x0 0 1000000).isSome=true then
   (r129 (v1 && ((r166 x0 0 1000000).getD default)) 2).bind fun v2=>
    (r129 (decide (x7≤x0)) 9).bind fun v3=>
     (r126 [v2,v3]).bind fun v4=>
      if (v4 != 0)=true then
       some v4
       else (r166 x8 0 1000000).bind fun v5=>
        if v5=true→(r166 x1 0 1000000).isSome=true then
         (r129 (v5 && ((r166 x1 0 1000000).getD default)) 2).bind fun v6=>
          (r129 (decide (x8≤x1)) 9).bind fun v7=>
           (r126 [v6,v7]).bind fun v8=>
            if (v8 != 0)=true then
             some v8
             else (r166 x9 0 1000000).bind fun v9=>
              if v9=true→(r166 x2 0 1000000).isSome=true then
               (r129 (v9 && ((r166 x2 0 1000000).getD default)) 2).bind fun v10=>
                (r129 (decide (x9≤x2)) 9).bind fun v11=>
                 (r126 [v10,v11]).bind fun v12=>
                  if (v12 != 0)=true then
                   some v12
                   else (r166 x10 0 1000000).bind fun v13=>
                    if v13=true→(r166 x3 0 1000000).isSome=true then
                     (r129 (v13 && ((r166 x3 0 1000000).getD default)) 2).bind fun v14=>
                      (r129 (decide (x10≤x3)) 9).bind fun v15=>
                       (r126 [v14,v15]).bind fun v16=>
                        if (v16 != 0)=true then
                         some v16
                         else (r166 x11 0 1000000).bind fun v17=>
                          if v17=true→(r166 x4 0 1000000).isSome=true then
                           (r129 (v17 && ((r166 x4 0 1000000).getD default)) 2).bind fun v18=>
                            (r129 (decide (x11≤x4)) 9).bind fun v19=>
                             (r126 [v18,v19]).bind fun v20=>
                              if (v20 != 0)=true then
                               some v20
                               else (r166 x12 0 100000).bind fun v21=>
                                if v21=true→(r166 x5 0 100000).isSome=true then
                                 (r129 (v21 && ((r166 x5 0 100000).getD default)) 2).bind fun v22=>
                                  (r129 (decide (x12≤x5)) 9).bind fun v23=>
                                   (r126 [v22,v23]).bind fun v24=>
                                    if (v24 != 0)=true then
                                     some v24
                                     else (r166 x13 0 1000000).bind fun v25=>
                                      if v25=true→(r166 x6 0 1000000).isSome=true then
                                       (r129 (v25 && ((r166 x6 0 1000000).getD default)) 2).bind fun v26=>
                                        (r129 (decide (x13≤x6)) 9).bind fun v27=>
                                         (r126 [v26,v27]).bind fun v28=>
                                          if (v28 != 0)=true then
                                           some v28
                                           else (r175 x7 x0 x8 x1 x9 x2 x10 x3 x11 x4 x12 x5 x13 x6).bind fun v29=>
                                            (r166 1000000 (IntKind.i64.wrap ((IntKind.i64.wrap ((IntKind.i64.wrap ((IntKind.i64.wrap (0+v29.1))+v29.2.2.1))+v29.2.2.2.2.1))+v29.2.2.2.2.2.2.1)) (IntKind.i64.wrap ((IntKind.i64.wrap ((IntKind.i64.wrap ((IntKind.i64.wrap (0+v29.2.1))+v29.2.2.2.1))+v29.2.2.2.2.2.1))+v29.2.2.2.2.2.2.2))).bind fun v30=>
                                             (r129 v30 12).bind fun v31=>
                                              some v31
                                       else none
                                 else none
                           else none
                     else none
               else none
         else none
   else none
@[go_sem] def T128:=qT47 qu3 false r128
@[go_sem] def tb128 (k:Nat):=lk [(126,T126.sp),(129,T129.sp),(166,T166.sp),(175,T175.sp)] k
theorem tb128_ok:FnsOk Tryz.prog tb128:= .cons f126 (.cons f129 (.cons f166 (.cons f175 .nil)))
theorem f128:FnFact Tryz.prog 128 T128.sp:=by
 refine vm (tb:=tb128) (.cons f126 (.cons f129 (.cons f166 (.cons f175 .nil)))) Tryz.func128 Tryz.ntmps128 fun ⟨x7,x0,x8,x1,x9,x2,x10,x3,x11,x4,x12,x5,x13,x6⟩ r hr stop S=> ?_
 rw [uq14,r128] at hr
 refine S.gx [2,6] ?_
 refine gr ?_
 refine S.inl 0 [1,3] [] Tryz.func174 (by decide) rfl Tryz.ntmps174 (fun cx e=>drawn_ok ty_ok tb128_ok cx e) (some 11) rfl rfl rfl rfl (nL rfl) (nL rfl) ?_
 refine gs ?_
 refine gr ?_
 intro stop1 S1
 refine S1.gx [] ?_
 refine gr ?_
 refine gr ?_
 refine S.gx [2,6] ?_
 refine gr ?_
 refine S.lp ?_
 refine S.gx [2,6] ?_
 obtain ⟨v1,hv1,hr⟩:=of_bind0 hr
 obtain ⟨hg38,hr⟩:=of_guard0 hr
 obtain ⟨v2,hv2,hr⟩:=of_bind0 hr
 obtain ⟨v3,hv3,hr⟩:=of_bind0 hr
 obtain ⟨v4,hv4,hr⟩:=of_bind0 hr
 try simp only [hv1,hv2,hv3,hv4,Option.getD_some,Option.isSome_some,true_and,and_assoc]
 repeat (first | refine gG hg38 ?_ | refine gA ?_ | refine gB ?_)
 refine S.prune [1,3,6,11,12] ?_
 refine S.gx [2] ?_
 refine gr ?_
 refine gr ?_
 refine iW hr (fun hc hr=>D0 hr) fun hc hr=> ?_
 refine gr ?_
 refine S.lp ?_
 refine S.gx [2,6] ?_
 obtain ⟨v5,hv5,hr⟩:=of_bind0 hr
 obtain ⟨hg37,hr⟩:=of_guard0 hr
 obtain ⟨v6,hv6,hr⟩:=of_bind0 hr
 obtain ⟨v7,hv7,hr⟩:=of_bind0 hr
 obtain ⟨v8,hv8,hr⟩:=of_bind0 hr
 try simp only [hv5,hv6,hv7,hv8,Option.getD_some,Option.isSome_some,true_and,and_assoc]
 repeat (first | refine gG hg37 ?_ | refine gA ?_ | refine gB ?_)
 refine S.prune [1,3,6,11,12] ?_
 refine S.gx [2] ?_
 refine gr ?_
 refine gr ?_
 refine iW hr (fun hc hr=>D0 hr) fun hc hr=> ?_
 refine gr ?_
 refine S.lp ?_
 refine S.gx [2,6] ?_
 obtain ⟨v9,hv9,hr⟩:=of_bind0 hr
 obtain ⟨hg36,hr⟩:=of_guard0 hr
 obtain ⟨v10,hv10,hr⟩:=of_bind0 hr
 obtain ⟨v11,hv11,hr⟩:=of_bind0 hr
 obtain ⟨v12,hv12,hr⟩:=of_bind0 hr
 try simp only [hv9,hv10,hv11,hv12,Option.getD_some,Option.isSome_some,true_and,and_assoc]
 repeat (first | refine gG hg36 ?_ | refine gA ?_ | refine gB ?_)
 refine S.prune [1,3,6,11,12] ?_
 refine S.gx [2] ?_
 refine gr ?_
 refine gr ?_
 refine iW hr (fun hc hr=>D0 hr) fun hc hr=> ?_
 refine gr ?_
 refine S.lp ?_
 refine S.gx [2,6] ?_
 obtain ⟨v13,hv13,hr⟩:=of_bind0 hr
 obtain ⟨hg35,hr⟩:=of_guard0 hr
 obtain ⟨v14,hv14,hr⟩:=of_bind0 hr
 obtain ⟨v15,hv15,hr⟩:=of_bind0 hr
 obtain ⟨v16,hv16,hr⟩:=of_bind0 hr
 try simp only [hv13,hv14,hv15,hv16,Option.getD_some,Option.isSome_some,true_and,and_assoc]
 repeat (first | refine gG hg35 ?_ | refine gA ?_ | refine gB ?_)
 refine S.prune [1,3,6,11,12] ?_
 refine S.gx [2] ?_
 refine gr ?_
 refine gr ?_
 refine iW hr (fun hc hr=>D0 hr) fun hc hr=> ?_
 refine gr ?_
 refine S.lp ?_
 refine S.gx [2,6] ?_
 obtain ⟨v17,hv17,hr⟩:=of_bind0 hr
 obtain ⟨hg34,hr⟩:=of_guard0 hr
 obtain ⟨v18,hv18,hr⟩:=of_bind0 hr
 obtain ⟨v19,hv19,hr⟩:=of_bind0 hr
 obtain ⟨v20,hv20,hr⟩:=of_bind0 hr
 try simp only [hv17,hv18,hv19,hv20,Option.getD_some,Option.isSome_some,true_and,and_assoc]
 repeat (first | refine gG hg34 ?_ | refine gA ?_ | refine gB ?_)
 refine S.prune [1,3,6,11,12] ?_
 refine S.gx [2] ?_
 refine gr ?_
 refine gr ?_
 refine iW hr (fun hc hr=>D0 hr) fun hc hr=> ?_
 refine gr ?_
 refine S.lp ?_
 refine S.gx [2,6] ?_
 obtain ⟨v21,hv21,hr⟩:=of_bind0 hr
 obtain ⟨hg33,hr⟩:=of_guard0 hr
 obtain ⟨v22,hv22,hr⟩:=of_bind0 hr
 obtain ⟨v23,hv23,hr⟩:=of_bind0 hr
 obtain ⟨v24,hv24,hr⟩:=of_bind0 hr
 try simp only [hv21,hv22,hv23,hv24,Option.getD_some,Option.isSome_some,true_and,and_assoc]
 repeat (first | refine gG hg33 ?_ | refine gA ?_ | refine gB ?_)
 refine S.prune [1,3,6,11,12] ?_
 refine S.gx [2] ?_
 refine gr ?_
 refine gr ?_
 refine iW hr (fun hc hr=>D0 hr) fun hc hr=> ?_
 refine gr ?_
 refine S.lp ?_
 refine S.gx [2,6] ?_
 obtain ⟨v25,hv25,hr⟩:=of_bind0 hr
 obtain ⟨hg32,hr⟩:=of_guard0 hr
 obtain ⟨v26,hv26,hr⟩:=of_bind0 hr
 obtain ⟨v27,hv27,hr⟩:=of_bind0 hr
 obtain ⟨v28,hv28,hr⟩:=of_bind0 hr
 try simp only [hv25,hv26,hv27,hv28,Option.getD_some,Option.isSome_some,true_and,and_assoc]
 repeat (first | refine gG hg32 ?_ | refine gA ?_ | refine gB ?_)
 refine S.prune [1,3,6,11,12] ?_
 refine S.gx [2] ?_
 refine gr ?_
 refine gr ?_
 refine iW hr (fun hc hr=>D0 hr) fun hc hr=> ?_
 refine gr ?_
 refine S.lp ?_
 refine S.gx [2,6] ?_
 obtain ⟨v29,hv29,hr⟩:=of_bind0 hr
 refine gb hv29 ?_
 refine S.lp ?_
 refine S.gx [2,6] ?_
 refine gr ?_
 refine S.lp ?_
 refine S.gx [2,6] ?_
 refine gr ?_
 refine S.lp ?_
 refine S.gx [2,6] ?_
 refine gr ?_
 refine S.lp ?_
 refine S.gx [2,6] ?_
 refine gr ?_
 refine S.lp ?_
 refine S.gx [2,6] ?_
 exact D0 hr
def r202 (a0:Int):Option (Int):=
 (r198 a0).bind fun v1=>
  (r129 v1 2).bind fun v2=>
   some v2
@[go_sem] def T202:=qT4 qu3 false r202
@[go_sem] def tb202 (k:Nat):=lk [(129,T129.sp),(198,T198.sp)] k
theorem f202:FnFact Tryz.prog 202 T202.sp:=by
 refine vm (tb:=tb202) (.cons f129 (.cons f198 .nil)) Tryz.func202 Tryz.ntmps202 fun a0 r hr stop S=> ?_
 rw [uq1,r202] at hr
 refine S.gx [] ?_
 exact D0 hr
def r176 (x0 x1:Int):Option (Int):=
 (r202 x0).bind fun v1=>
  (r202 x1).bind fun v2=>
   (r129 (decide (x0≤x1)) 9).bind fun v3=>
    (r126 [v1,v2,v3]).bind fun v4=>
     if (v4 != 0)=true then
      some v4
      else (r129 (decide ((IntKind.i64.wrap (x1 - x0))≤50)) 8).bind fun v5=>
       some v5
@[go_sem] def T176:=qT25 qu3 false r176
@[go_sem] def tb176 (k:Nat):=lk [(126,T126.sp),(129,T129.sp),(202,T202.sp)] k
theorem f176:FnFact Tryz.prog 176 T176.sp:=by
 refine vm (tb:=tb176) (.cons f126 (.cons f129 (.cons f202 .nil))) Tryz.func176 Tryz.ntmps176 fun ⟨x0,x1⟩ r hr stop S=> ?_
 rw [uq2,r176] at hr
 refine S.gx [] ?_
 exact D0 hr
def b130_1 (a0:L_II):Bd Int Int:=fun s1=>
 if (decide (s1<(a0.length:Int)))=true then
  if 0≤s1∧s1<(a0.length:Int) then
   bindC (r176 ((a0.getD s1.toNat default).1) ((a0.getD s1.toNat default).2)) fun v1=>
    if (v1 != 0)=true then
     .out (some v1)
     else .next (IntKind.i64.wrap (s1+1))
   else .out none
  else .out (some 0)
def r130 (a0:L_II):Option (Int):=
 if (decide ((a0.length:Int)>200))=true then
  some 8
  else iterC (b130_1 a0) 1000000000 0
@[go_sem] def T130:=qT5 qu3 false r130
@[go_sem] def tb130 (k:Nat):=lk [(176,T176.sp)] k
theorem f130:FnFact Tryz.prog 130 T130.sp:=by
 refine vm (tb:=tb130) (.cons f176 .nil) Tryz.func130 Tryz.ntmps130 fun a0 r hr stop S=> ?_
 rw [uq1,r130] at hr
 refine S.gx [] ?_
 refine gr ?_
 refine iW hr (fun hc hr=>D0 hr) fun hc hr=> ?_
 refine gr ?_
 refine S.sees [9,10,11] [] [] ?_ (Stop.iter S (fun s1=>⟨[(9,.c (.d (encF 2 d_II a0))),(10,.c (.d (.int .i64 (a0.length:Int)))),(11,.c (.d (.int .i64 s1)))],[],[]⟩) (b130_1 a0) (fun q=>q=r) hr rfl ?_)
 ·exact lf
 ·intro s1 hr
  unfold b130_1 at hr
  refine S.gx [] ?_
  exact D1 (S.ss [9,10,11] [] []) hr
def r234 (x0 x2 x3 x4 x1:Int):Option (Bool):=
 some (decide (x0≤x1))
@[go_sem] def T234:=qT48 qu2 false r234
theorem f234:FnFact Tryz.prog 234 T234.sp:=by
 refine vm .nil Tryz.func234 Tryz.ntmps234 fun ⟨x0,x2,x3,x4,x1⟩ r hr stop S=> ?_
 rw [uq5,r234] at hr
 refine S.gx [] ?_
 exact D0 hr
def b217_1 (x0:L_IIII) (a1:Int):Bd Int (Option (Int×Int×Int×Int)):=fun s1=>
 if (decide (s1≥0))=true then
  if 0≤s1∧s1<(x0.length:Int) then
   if 0≤s1∧s1<(x0.length:Int) then
    bindC (r234 ((x0.getD s1.toNat default).1) ((x0.getD s1.toNat default).2.1) ((x0.getD s1.toNat default).2.2.1) ((x0.getD s1.toNat default).2.2.2) a1) fun v1=>
     if v1=true then
      if 0≤s1∧s1<(x0.length:Int) then
       .out (some (some ((x0.getD s1.toNat default).1,(x0.getD s1.toNat default).2.1,(x0.getD s1.toNat default).2.2.1,(x0.getD s1.toNat default).2.2.2)))
       else .out none
      else .next (IntKind.i64.wrap (s1 - 1))
    else .out none
   else .out none
  else .out (some none)
def r217 (x0:L_IIII) (x1:L_IIIII) (x2:L_III) (x3:L_II) (x4 x5 x6 x7 a1:Int):Option ((Option (Int×Int×Int×Int))):=
 iterC (b217_1 x0 a1) 1000000000 (IntKind.i64.wrap ((x0.length:Int) - 1))
@[go_sem] def T217:=qT49 qu29 true r217
@[go_sem] def tb217 (k:Nat):=lk [(234,T234.sp)] k
theorem tb217_ok:FnsOk Tryz.prog tb217:= .cons f234 .nil
theorem f217:FnFact Tryz.prog 217 T217.sp:=by
 refine vm (tb:=tb217) (.cons f234 .nil) Tryz.func217 Tryz.ntmps217 fun ⟨x0,x1,x2,x3,x4,x5,x6,x7,a1⟩ r hr stop S=> ?_
 rw [uq9,r217] at hr
 refine S.gx [1] ?_
 refine gr ?_
 refine S.inl 4 [4] [] Tryz.func233 (by decide) rfl Tryz.ntmps233 (fun cx e=>drawn_ok ty_ok tb217_ok cx e) (some 9) rfl rfl rfl rfl (nL rfl) (nL rfl) ?_
 refine gs ?_
 refine gr ?_
 intro stop1 S1
 refine S1.gx [1,3] ?_
 refine gr ?_
 refine S1.inl 1 [2,3,4] [] Tryz.func254 (by decide) rfl Tryz.ntmps254 (fun cx e=>drawn_ok ty_ok tb217_ok cx e) (some 7) rfl rfl rfl rfl (nL rfl) (nL rfl) ?_
 refine gs ?_
 refine gr ?_
 intro stop2 S2
 refine S2.gx [] ?_
 refine gr ?_
 refine gr ?_
 refine S1.gx [1,3] ?_
 refine gr ?_
 refine S1.range [2,3,4] Tryz.func262 (by decide) rfl Tryz.ntmps262 Tryz.results262 (fun cx e=>drawn_ok ty_ok tb217_ok cx e) (fun cx e=>drawn_ok ty_ok tb217_ok cx e) (by decide) rfl rfl (nL rfl) ?_
 intro l2 stop2 stopJ2 S2 SJ2 Y2
 refine S2.gx [3] ?_
 refine gr ?_
 refine S2.sees [0,1,3] [(1,1),(100002,100002),(100003,100003),(4,4),(3,3)] [] ?_ (Stop.iter S2 (fun s1=>⟨[(0,.c (.yld l2)),(1,.c (.ref 1 0)),(3,.c (.d (.int .i64 s1)))],[(1,[.d (encF 4 d_IIII x0)]),(100002,[.d (encF 4 d_IIII x0)]),(100003,[.clo 234 [.ref 3 0]]),(4,[.d (encP d_IIII none)]),(3,[.d (.int .i64 a1)])],[]⟩) (b217_1 x0 a1) (fun q=>q=r) hr rfl ?_)
 ·exact lf
 ·intro s1 hr
  unfold b217_1 at hr
  refine S2.gx [3] ?_
  refine gr ?_
  refine iW1 hr (fun hc hr=> ?_) fun hc hr=> ?_
  ·refine gr ?_
   refine Y2 6 [0,1,3] (some 17) rfl rfl rfl rfl (nL rfl) (by rfl) ?_
   refine gs ?_
   obtain ⟨hg4,hr⟩:=of_guard1 hr
   refine gr ?_
   intro stopA3 SA3
   refine SA3.gx [] ?_
   refine gr ?_
   intro stop3 S3
   refine S3.gx [1,3] ?_
   refine gr ?_
   refine S3.gx [1] ?_
   obtain ⟨hg3,hr⟩:=of_guard1 hr
   obtain ⟨v1,hv1,hr⟩:=of_bind1 hr
   refine gb hv1 ?_
   refine gr ?_
   refine iW1 hr (fun hc hr=> ?_) fun hc hr=> ?_
   ·obtain ⟨hg2,hr⟩:=of_guard1 hr
    refine gr ?_
    refine gr ?_
    refine (SJ2 .ret).gx [3] ?_
    refine gr ?_
    have hr:=of_out0 hr
    refine gr ?_
    refine S1.gx [1,3] ?_
    refine gr ?_
    refine gr ?_
    refine S.gx [1] ?_
    exact D0 hr
   ·refine gr ?_
    refine gr ?_
    refine S2.gx [3] ?_
    exact D1 (S2.ss [0,1,3] [(1,1),(100002,100002),(100003,100003),(4,4),(3,3)] []) hr
  ·refine gr ?_
   have hr:=of_out0 hr
   refine gr ?_
   refine gr ?_
   refine S1.gx [1,3] ?_
   refine gr ?_
   refine gr ?_
   refine S.gx [1] ?_
   exact D0 hr
def r235 (a0:Int):Option (Int):=
 some (if 1000000<a0 then 1000000 else a0)
@[go_sem] def T235:=qT4 qu3 false r235
theorem f235:FnFact Tryz.prog 235 T235.sp:=by
 refine vm .nil Tryz.func235 Tryz.ntmps235 fun a0 r hr stop S=> ?_
 rw [uq1,r235] at hr
 refine S.gx [] ?_
 exact D0 hr
def r236 (a0 a1 x1 x2 x3 x0:Int):Option (Int):=
 if (decide (a1>0))=true then
  some (if 100000<IntKind.i64.wrap (a0+x0) then 100000 else IntKind.i64.wrap (a0+x0))
  else some (if 100000<a0 then 100000 else a0)
@[go_sem] def T236:=qT50 qu3 false r236
theorem f236:FnFact Tryz.prog 236 T236.sp:=by
 refine vm .nil Tryz.func236 Tryz.ntmps236 fun ⟨a0,a1,x1,x2,x3,x0⟩ r hr stop S=> ?_
 rw [uq6,r236] at hr
 refine S.gx [] ?_
 exact D0 hr
def r218 (x4 x5 x12 x13 x6 x7 x8 x9 x14 x15 x10 x11 x16 x17 x2 x0 x1 x3:Int):Option (Int×Int×Int×Int×Int×Int×Int×Int×Int×Int×Int×Int×Int×Int):=
 (r235 (IntKind.i64.wrap ((IntKind.i64.wrap (x4+x6))+x8))).bind fun v1=>
  (r235 (IntKind.i64.wrap ((IntKind.i64.wrap (x5+x7))+x9))).bind fun v2=>
   (r236 x10 (IntKind.i64.wrap (1000000 - (if 0<IntKind.i64.wrap (v2 - x0) then IntKind.i64.wrap (v2 - x0) else 0))) x2 x0 x1 x3).bind fun v3=>
    (r236 x11 (IntKind.i64.wrap (1000000 - (if 0<IntKind.i64.wrap (v1 - x1) then IntKind.i64.wrap (v1 - x1) else 0))) x2 x0 x1 x3).bind fun v4=>
     some ((if 0<IntKind.i64.wrap (v1 - x1) then IntKind.i64.wrap (v1 - x1) else 0),(if 0<IntKind.i64.wrap (v2 - x0) then IntKind.i64.wrap (v2 - x0) else 0),IntKind.i64.wrap (1000000 - (if 0<IntKind.i64.wrap (v2 - x0) then IntKind.i64.wrap (v2 - x0) else 0)),IntKind.i64.wrap (1000000 - (if 0<IntKind.i64.wrap (v1 - x1) then IntKind.i64.wrap (v1 - x1) else 0)),0,0,0,0,0,0,v3,v4,0,0)
@[go_sem] def T218:=qT51 qu26 false r218
@[go_sem] def tb218 (k:Nat):=lk [(235,T235.sp),(236,T236.sp)] k
theorem f218:FnFact Tryz.prog 218 T218.sp:=by
 refine vm (tb:=tb218) (.cons f235 (.cons f236 .nil)) Tryz.func218 Tryz.ntmps218 fun ⟨x4,x5,x12,x13,x6,x7,x8,x9,x14,x15,x10,x11,x16,x17,x2,x0,x1,x3⟩ r hr stop S=> ?_
 rw [uq18,r218] at hr
 refine S.gx [3,7] ?_
 obtain ⟨v1,hv1,hr⟩:=of_bind0 hr
 obtain ⟨v2,hv2,hr⟩:=of_bind0 hr
 refine gb hv1 ?_
 refine gb hv2 ?_
 refine S.prune [2,3,4,5,6] ?_
 refine S.gx [7] ?_
 refine gr ?_
 obtain ⟨v3,hv3,hr⟩:=of_bind0 hr
 obtain ⟨v4,hv4,hr⟩:=of_bind0 hr
 refine gb hv3 ?_
 refine gb hv4 ?_
 refine S.prune [4,6] ?_
 refine S.gx [3] ?_
 exact D0 hr
end Go.Proofs.YtkbdjphdhcgmaaaGreatDoor

/- Contracts of functions, written by wip/dec. -/
import Derived.Test.YtnepigpnlnmlmaaGreatDoorF00
import Derived.Test.YtnepigpnlnmlmaaGreatDoorF05
import Derived.Test.YtnepigpnlnmlmaaGreatDoorF06
set_option linter.unusedVariables false
set_option linter.unusedSimpArgs false
set_option linter.constructorNameAsVariable false
set_option maxHeartbeats 4000000
set_option maxRecDepth 20000
namespace Go.Proofs.YtnepigpnlnmlmaaGreatDoor
open Go.Abs
section
variable {β:Type} [Inhabited β] (u:β→List RV) (al:Bool)
def qw46 (a0 a1 a2 a3 a4 a5 a6:Int):List Arg:=[.agg [.int .i64 a0,.int .i64 a1,.int .i64 a2,.int .i64 a3,.int .i64 a4,.int .i64 a5,.int .i64 a6]]
def qd46:List Arg→Int×Int×Int×Int×Int×Int×Int
 | [.agg [c0,c1,c2,c3,c4,c5,c6]]=>(dInt c0,dInt c1,dInt c2,dInt c3,dInt c4,dInt c5,dInt c6)
 | _=>default
def qT46 (r:Int→Int→Int→Int→Int→Int→Int→Option β):=mkT (u7 qw46) qd46 (u7 r) u al
attribute [go_sem] qw46 qd46 qT46
def qw47 (a0 a1 a2 a3 a4 a5 a6 a7 a8 a9 a10 a11 a12 a13:Int):List Arg:=[.agg [.int .i64 a0,.int .i64 a1,.int .i64 a2,.int .i64 a3,.int .i64 a4,.int .i64 a5,.int .i64 a6,.int .i64 a7,.int .i64 a8,.int .i64 a9,.int .i64 a10,.int .i64 a11,.int .i64 a12,.int .i64 a13]]
def qd47:List Arg→Int×Int×Int×Int×Int×Int×Int×Int×Int×Int×Int×Int×Int×Int
 | [.agg [c0,c1,c2,c3,c4,c5,c6,c7,c8,c9,c10,c11,c12,c13]]=>(dInt c0,dInt c1,dInt c2,dInt c3,dInt c4,dInt c5,dInt c6,dInt c7,dInt c8,dInt c9,dInt c10,dInt c11,dInt c12,dInt c13)
 | _=>default
def qT47 (r:Int→Int→Int→Int→Int→Int→Int→Int→Int→Int→Int→Int→Int→Int→Option β):=mkT (u14 qw47) qd47 (u14 r) u al
attribute [go_sem] qw47 qd47 qT47
def qw48 (a0 a1 a2 a3 a4:Int):List Arg:=[.agg [.int .i64 a0,.int .i64 a1,.int .i64 a2,.int .i64 a3],.ptr [.int .i64 a4]]
def qd48:List Arg→Int×Int×Int×Int×Int
 | [.agg [c0,c1,c2,c3],.ptr [c4]]=>(dInt c0,dInt c1,dInt c2,dInt c3,dInt c4)
 | _=>default
def qT48 (r:Int→Int→Int→Int→Int→Option β):=mkT (u5 qw48) qd48 (u5 r) u al
attribute [go_sem] qw48 qd48 qT48
def qw50 (a0 a1 a2 a3 a4 a5:Int):List Arg:=[.c (.int .i64 a0),.c (.int .i64 a1),.ptr [.int .i64 a2,.int .i64 a3,.int .i64 a4,.int .i64 a5]]
def qd50:List Arg→Int×Int×Int×Int×Int×Int
 | [.c c0,.c c1,.ptr [c2,c3,c4,c5]]=>(dInt c0,dInt c1,dInt c2,dInt c3,dInt c4,dInt c5)
 | _=>default
def qT50 (r:Int→Int→Int→Int→Int→Int→Option β):=mkT (u6 qw50) qd50 (u6 r) u al
attribute [go_sem] qw50 qd50 qT50
def qw51 (a0 a1 a2 a3 a4 a5 a6 a7 a8 a9 a10 a11 a12 a13 a14 a15 a16 a17:Int):List Arg:=[.agg [.int .i64 a0,.int .i64 a1,.int .i64 a2,.int .i64 a3,.int .i64 a4,.int .i64 a5,.int .i64 a6,.int .i64 a7,.int .i64 a8,.int .i64 a9,.int .i64 a10,.int .i64 a11,.int .i64 a12,.int .i64 a13],.agg [.int .i64 a14,.int .i64 a15,.int .i64 a16,.int .i64 a17]]
def qd51:List Arg→Int×Int×Int×Int×Int×Int×Int×Int×Int×Int×Int×Int×Int×Int×Int×Int×Int×Int
 | [.agg [c0,c1,c2,c3,c4,c5,c6,c7,c8,c9,c10,c11,c12,c13],.agg [c14,c15,c16,c17]]=>(dInt c0,dInt c1,dInt c2,dInt c3,dInt c4,dInt c5,dInt c6,dInt c7,dInt c8,dInt c9,dInt c10,dInt c11,dInt c12,dInt c13,dInt c14,dInt c15,dInt c16,dInt c17)
 | _=>default
def qT51 (r:Int→Int→Int→Int→Int→Int→Int→Int→Int→Int→Int→Int→Int→Int→Int→Int→Int→Int→Option β):=mkT (u18 qw51) qd51 (u18 r) u al
attribute [go_sem] qw51 qd51 qT51
def qu25 (v:L_LIIE×Int):List RV:=[.c (.own (encF 1 d_LIIE v.1)),.c (.d (.int .i64 v.2))]
attribute [go_sem] qu25
def qu27 (v:Int×Int×Int×Int×Int×Int×Int×Int×Int×Int×Int×Int×Int×Int×Int):List RV:=[.agg [.d (.int .i64 v.1),.d (.int .i64 v.2.1),.d (.int .i64 v.2.2.1),.d (.int .i64 v.2.2.2.1),.d (.int .i64 v.2.2.2.2.1),.d (.int .i64 v.2.2.2.2.2.1),.d (.int .i64 v.2.2.2.2.2.2.1),.d (.int .i64 v.2.2.2.2.2.2.2.1),.d (.int .i64 v.2.2.2.2.2.2.2.2.1),.d (.int .i64 v.2.2.2.2.2.2.2.2.2.1),.d (.int .i64 v.2.2.2.2.2.2.2.2.2.2.1),.d (.int .i64 v.2.2.2.2.2.2.2.2.2.2.2.1),.d (.int .i64 v.2.2.2.2.2.2.2.2.2.2.2.2.1),.d (.int .i64 v.2.2.2.2.2.2.2.2.2.2.2.2.2.1)],.c (.d (.int .i64 v.2.2.2.2.2.2.2.2.2.2.2.2.2.2))]
attribute [go_sem] qu27
def qu28 (v:Int×Int×Int×Int×Int×Int×Int×Int):List RV:=[.agg [.d (.int .i64 v.1),.d (.int .i64 v.2.1),.d (.int .i64 v.2.2.1),.d (.int .i64 v.2.2.2.1),.d (.int .i64 v.2.2.2.2.1),.d (.int .i64 v.2.2.2.2.2.1),.d (.int .i64 v.2.2.2.2.2.2.1),.d (.int .i64 v.2.2.2.2.2.2.2)]]
attribute [go_sem] qu28
def qu29 (v:(Option (Int×Int×Int×Int))):List RV:=[.c (.d (encP d_IIII v))]
attribute [go_sem] qu29
end
def b96_2 (x0 x1:Int) (x2:L_II) (x3:L_LIIE) (x4 x5:L_I) (x6:L_II) (x7 x8:Int) (v2:L_LIELIE×Int) (s1:Int×(List (L_II))):Bd (Int×(List (L_II))) (Ctl (Int×(List (L_II))) (L_LIIE×Int)):=fun s2=>
 if (decide (s2.1<(s1.2.length:Int)))=true then
  if 0≤s2.1∧s2.1<(s2.2.length:Int) then
   if 0≤s2.1∧s2.1<(((v2.1.getD s1.1.toNat default).1).length:Int) then
    if 0≤s2.1∧s2.1<(((v2.1.getD s1.1.toNat default).2).length:Int) then
     bindC (r159 x0 x1 x2 x3 x4 x5 x6 x7 x8 (((v2.1.getD s1.1.toNat default).1).getD s2.1.toNat default) (((v2.1.getD s1.1.toNat default).2).getD s2.1.toNat default)) fun v3=>
      if ((s2.2.getD s2.1.toNat default).length+1)*16≤140737488355328∧(s2.2.getD s2.1.toNat default).length+1≤9223372036854775807 then
       if 0≤s2.1∧s2.1<(s2.2.length:Int) then
        .next (IntKind.i64.wrap (s2.1+1),s2.2.set s2.1.toNat ((s2.2.getD s2.1.toNat default)++[(v3.1,v3.2)]))
        else .out none
       else .out none
     else .out none
    else .out none
   else .out none
  else .out (some (.next (IntKind.i64.wrap (s1.1+1),s2.2)))
def b96_1 (x0 x1:Int) (x2:L_II) (x3:L_LIIE) (x4 x5:L_I) (x6:L_II) (x7 x8:Int) (v2:L_LIELIE×Int):Bd (Int×(List (L_II))) (L_LIIE×Int):=fun s1=>
 if (decide (s1.1<(v2.1.length:Int)))=true then
  if 0≤s1.1∧s1.1<(v2.1.length:Int) then
   (iterC (b96_2 x0 x1 x2 x3 x4 x5 x6 x7 x8 v2 s1) 1000000000 (0,s1.2)).getD (.out none)
   else .out none
  else .out (some (s1.2,0))
def r96 (x0 x1:Int) (x2:L_II) (x3:L_LIIE) (x4 x5:L_I) (x6:L_II) (x7 x8:Int) (a1:L_II):Option (L_LIIE×Int):=
 (r99 x0 x1 x2 x3 x4 x5 x6 x7 x8 a1).bind fun v1=>
  (r158 x0 x1 x2 x3 x4 x5 v1).bind fun v2=>
   if (v2.2 != 0)=true then
    some ([],v2.2)
    else if 0≤x0∧x0≤x0∧x0≤9223372036854775807∧24*x0≤281474976710656 then
     iterC (b96_1 x0 x1 x2 x3 x4 x5 x6 x7 x8 v2) 1000000000 (0,List.replicate x0.toNat [])
     else none
@[go_sem] def T96:=qT39 qu25 true r96
@[go_sem] def tb96 (k:Nat):=lk [(99,T99.sp),(158,T158.sp),(159,T159.sp)] k
theorem f96:FnFact Tryz.prog 96 T96.sp:=by
 refine vm (tb:=tb96) (.cons f99 (.cons f158 (.cons f159 .nil))) Tryz.func96 Tryz.ntmps96 fun ⟨x0,x1,x2,x3,x4,x5,x6,x7,x8,a1⟩ r hr stop S=> ?_
 rw [uq10,r96] at hr
 refine S.gx [14] ?_
 obtain ⟨v1,hv1,hr⟩:=of_bind0 hr
 obtain ⟨v2,hv2,hr⟩:=of_bind0 hr
 refine gb hv1 ?_
 refine gb hv2 ?_
 refine iW hr (fun hc hr=>D0 hr) fun hc hr=> ?_
 obtain ⟨hg10,hr⟩:=of_guard0 hr
 refine gr ?_
 refine S.toDeep 32 2 32 rfl rfl rfl (of_eq_true (allNl_rep _ _)) ?_
 refine S.li [2,8,33,34,35] [(2,2)] [(32,32),(22,22)] (fun s1=>⟨[sR 2 2,sO 8 32,sO 33 22,sI 34 (v2.1.length:Int),sI 35 s1.1],[(2,[iC x0,iC x1,.d (encF 2 d_II x2),.d (encF 1 d_LIIE x3),.d (encF 1 d_I x4),.d (encF 1 d_I x5),.d (encF 2 d_II x6),iC x7,iC x8])],[(32,.deep (encF 1 d_LIIE s1.2)),(22,.owned (encF 2 d_LIELIE v2.1))]⟩) (b96_1 x0 x1 x2 x3 x4 x5 x6 x7 x8 v2) (fun q=>q=r) hr rfl ?_
 intro s1 hr
 unfold b96_1 at hr
 refine S.gw [14] ?_
 refine iW1 hr (fun hc hr=> ?_) fun hc hr=> ?_
 ·obtain ⟨hg9,hr⟩:=of_guard1 hr
  refine gr ?_
  obtain ⟨q2,hq,hr⟩:=of_iter1 hr
  refine S.li [2,8,10,33,34,35,40,41] [(2,2),(10,10)] [(32,32),(22,22)] (fun s2=>⟨[sR 2 2,sO 8 32,sR 10 10,sO 33 22,sI 34 (v2.1.length:Int),sI 35 s1.1,sI 40 (s1.2.length:Int),sI 41 s2.1],[(2,[iC x0,iC x1,.d (encF 2 d_II x2),.d (encF 1 d_LIIE x3),.d (encF 1 d_I x4),.d (encF 1 d_I x5),.d (encF 2 d_II x6),iC x7,iC x8]),(10,[.d (encF 1 d_I ((v2.1.getD s1.1.toNat default).1)),.d (encF 1 d_I ((v2.1.getD s1.1.toNat default).2))])],[(32,.deep (encF 1 d_LIIE s2.2)),(22,.owned (encF 2 d_LIELIE v2.1))]⟩) (b96_2 x0 x1 x2 x3 x4 x5 x6 x7 x8 v2 s1) _ hq hr ?_
  intro s2 hr
  unfold b96_2 at hr
  refine S.gw [14] ?_
  refine iW1 hr (fun hc hr=>D1 (S.ss [2,8,10,33,34,35,40,41] [(2,2),(10,10)] [(32,32),(22,22)]) hr) fun hc hr=> ?_
  refine gr ?_
  replace hr:=goodC_out hr
  exact D1 (S.ss [2,8,33,34,35] [(2,2)] [(32,32),(22,22)]) hr
 ·refine gr ?_
  have hr:=of_out0 hr
  refine gr ?_
  refine S.undeep 32 (encF 1 d_LIIE s1.2) rfl ?_ ?_
  ·exact lf
  refine S.gx [] ?_
  exact D0 hr
def r106 (x5 x0 x1 x2 x3 x4 x6:Int):Option (Int):=
 (r168 x5).bind fun v1=>
  if v1=true→(r168 x0).isSome=true then
   if (v1 && ((r168 x0).getD default))=true→(r168 x1).isSome=true then
    if ((v1 && ((r168 x0).getD default)) && ((r168 x1).getD default))=true→(r168 x2).isSome=true then
     if (((v1 && ((r168 x0).getD default)) && ((r168 x1).getD default)) && ((r168 x2).getD default))=true→(r168 x3).isSome=true then
      if ((((v1 && ((r168 x0).getD default)) && ((r168 x1).getD default)) && ((r168 x2).getD default)) && ((r168 x3).getD default))=true→(r142 x4 0 100000).isSome=true then
       if (((((v1 && ((r168 x0).getD default)) && ((r168 x1).getD default)) && ((r168 x2).getD default)) && ((r168 x3).getD default)) && ((r142 x4 0 100000).getD default))=true→(r142 x6 0 1000000).isSome=true then
        if (!((((((v1 && ((r168 x0).getD default)) && ((r168 x1).getD default)) && ((r168 x2).getD default)) && ((r168 x3).getD default)) && ((r142 x4 0 100000).getD default)) && ((r142 x6 0 1000000).getD default)))=true then
         some 2
         else (r143 ((IntKind.i64.wrap ((IntKind.i64.wrap ((IntKind.i64.wrap (x5+x0))+x1))+x2)) == 1000000) 3).bind fun v2=>
          some v2
        else none
       else none
      else none
     else none
    else none
   else none
@[go_sem] def T106:=qT46 qu3 false r106
@[go_sem] def tb106 (k:Nat):=lk [(142,T142.sp),(143,T143.sp),(168,T168.sp)] k
theorem f106:FnFact Tryz.prog 106 T106.sp:=by
 refine vm (tb:=tb106) (.cons f142 (.cons f143 (.cons f168 .nil))) Tryz.func106 Tryz.ntmps106 fun ⟨x5,x0,x1,x2,x3,x4,x6⟩ r hr stop S=> ?_
 rw [uq7,r106] at hr
 refine S.gx [2] ?_
 obtain ⟨v1,hv1,hr⟩:=of_bind0 hr
 obtain ⟨hg3,hr⟩:=of_guard0 hr
 obtain ⟨hg4,hr⟩:=of_guard0 hr
 obtain ⟨hg5,hr⟩:=of_guard0 hr
 obtain ⟨hg6,hr⟩:=of_guard0 hr
 obtain ⟨hg7,hr⟩:=of_guard0 hr
 obtain ⟨hg8,hr⟩:=of_guard0 hr
 try simp only [hv1,oG,oI,true_and,and_assoc]
 repeat (first | refine gG hg3 ?_ | refine gG hg4 ?_ | refine gG hg5 ?_ | refine gG hg6 ?_ | refine gG hg7 ?_ | refine gG hg8 ?_ | refine gA ?_ | refine gB ?_)
 refine S.prune [1,3] ?_
 refine S.gx [] ?_
 exact D0 hr
def r255 (a0:Int):Option (Int×Int):=
 some (a0,a0)
@[go_sem] def T255:=qT4 qu7 false r255
theorem f255:FnFact Tryz.prog 255 T255.sp:=by
 refine vm .nil Tryz.func255 Tryz.ntmps255 fun a0 r hr stop S=> ?_
 rw [uq1,r255] at hr
 refine S.gx [] ?_
 exact D0 hr
def r199 (x0 x1 x2 x3 x4 x5 x6:Int):Option (Int×Int×Int×Int×Int×Int×Int×Int×Int×Int×Int×Int×Int×Int):=
 (r255 x0).bind fun v1=>
  (r255 x1).bind fun v2=>
   (r255 x2).bind fun v3=>
    (r255 x3).bind fun v4=>
     (r255 x4).bind fun v5=>
      (r255 x5).bind fun v6=>
       (r255 x6).bind fun v7=>
        some (v1.1,v1.2,v2.1,v2.2,v3.1,v3.2,v4.1,v4.2,v5.1,v5.2,v6.1,v6.2,v7.1,v7.2)
@[go_sem] def T199:=qT46 qu26 false r199
@[go_sem] def tb199 (k:Nat):=lk [(255,T255.sp)] k
theorem f199:FnFact Tryz.prog 199 T199.sp:=by
 refine vm (tb:=tb199) (.cons f255 .nil) Tryz.func199 Tryz.ntmps199 fun ⟨x0,x1,x2,x3,x4,x5,x6⟩ r hr stop S=> ?_
 rw [uq7,r199] at hr
 refine S.gx [] ?_
 exact D0 hr
def r145 (x0 x1 x2 x3 x4 x5 x6:Int):Option (Int×Int×Int×Int×Int×Int×Int×Int×Int×Int×Int×Int×Int×Int×Int):=
 (r106 x0 x1 x2 x3 x4 x5 x6).bind fun v1=>
  if (v1 != 0)=true then
   some (0,0,0,0,0,0,0,0,0,0,0,0,0,0,v1)
   else (r199 x0 x1 x2 x3 x4 x5 x6).bind fun v2=>
    some (v2.1,v2.2.1,v2.2.2.1,v2.2.2.2.1,v2.2.2.2.2.1,v2.2.2.2.2.2.1,v2.2.2.2.2.2.2.1,v2.2.2.2.2.2.2.2.1,v2.2.2.2.2.2.2.2.2.1,v2.2.2.2.2.2.2.2.2.2.1,v2.2.2.2.2.2.2.2.2.2.2.1,v2.2.2.2.2.2.2.2.2.2.2.2.1,v2.2.2.2.2.2.2.2.2.2.2.2.2.1,v2.2.2.2.2.2.2.2.2.2.2.2.2.2,0)
@[go_sem] def T145:=qT46 qu27 false r145
@[go_sem] def tb145 (k:Nat):=lk [(106,T106.sp),(199,T199.sp)] k
theorem f145:FnFact Tryz.prog 145 T145.sp:=by
 refine vm (tb:=tb145) (.cons f106 (.cons f199 .nil)) Tryz.func145 Tryz.ntmps145 fun ⟨x0,x1,x2,x3,x4,x5,x6⟩ r hr stop S=> ?_
 rw [uq7,r145] at hr
 refine S.gx [] ?_
 exact D0 hr
def r105 (x0:L_IIII) (x1:L_IIIII) (x2:L_III) (x3:L_II) (x4 x5 x6 x7:Int):Option (Int):=
 (r80 x0 x1 x2 x3 x4 x5 x6 x7).bind fun v1=>
  some v1.2
@[go_sem] def T105:=qT35 qu3 false r105
@[go_sem] def tb105 (k:Nat):=lk [(80,T80.sp)] k
theorem f105:FnFact Tryz.prog 105 T105.sp:=by
 refine vm (tb:=tb105) (.cons f80 .nil) Tryz.func105 Tryz.ntmps105 fun ⟨x0,x1,x2,x3,x4,x5,x6,x7⟩ r hr stop S=> ?_
 rw [uq8,r105] at hr
 refine S.gx [] ?_
 exact D0 hr
def r257 (x0 x1 x2 x3 x4 x5 x6 x7 x8 x9 x10 x11 x12 x13:Int):Option (Int×Int×Int×Int×Int×Int×Int×Int):=
 some (x0,x1,x2,x3,x4,x5,x6,x7)
@[go_sem] def T257:=qT47 qu28 false r257
theorem f257:FnFact Tryz.prog 257 T257.sp:=by
 refine vm .nil Tryz.func257 Tryz.ntmps257 fun ⟨x0,x1,x2,x3,x4,x5,x6,x7,x8,x9,x10,x11,x12,x13⟩ r hr stop S=> ?_
 rw [uq14,r257] at hr
 refine S.gx [] ?_
 exact D0 hr
def r200 (x7 x0 x8 x1 x9 x2 x10 x3 x11 x4 x12 x5 x13 x6:Int):Option (Int):=
 (r142 x7 0 1000000).bind fun v1=>
  if v1=true→(r142 x0 0 1000000).isSome=true then
   (r143 (v1 && ((r142 x0 0 1000000).getD default)) 2).bind fun v2=>
    (r143 (decide (x7≤x0)) 9).bind fun v3=>
     (r104 [v2,v3]).bind fun v4=>
      if (v4 != 0)=true then
       some v4
       else (r142 x8 0 1000000).bind fun v5=>
        if v5=true→(r142 x1 0 1000000).isSome=true then
         (r143 (v5 && ((r142 x1 0 1000000).getD default)) 2).bind fun v6=>
          (r143 (decide (x8≤x1)) 9).bind fun v7=>
           (r104 [v6,v7]).bind fun v8=>
            if (v8 != 0)=true then
             some v8
             else (r142 x9 0 1000000).bind fun v9=>
              if v9=true→(r142 x2 0 1000000).isSome=true then
               (r143 (v9 && ((r142 x2 0 1000000).getD default)) 2).bind fun v10=>
                (r143 (decide (x9≤x2)) 9).bind fun v11=>
                 (r104 [v10,v11]).bind fun v12=>
                  if (v12 != 0)=true then
                   some v12
                   else (r142 x10 0 1000000).bind fun v13=>
                    if v13=true→(r142 x3 0 1000000).isSome=true then
                     (r143 (v13 && ((r142 x3 0 1000000).getD default)) 2).bind fun v14=>
                      (r143 (decide (x10≤x3)) 9).bind fun v15=>
                       (r104 [v14,v15]).bind fun v16=>
                        if (v16 != 0)=true then
                         some v16
                         else (r142 x11 0 1000000).bind fun v17=>
                          if v17=true→(r142 x4 0 1000000).isSome=true then
                           (r143 (v17 && ((r142 x4 0 1000000).getD default)) 2).bind fun v18=>
                            (r143 (decide (x11≤x4)) 9).bind fun v19=>
                             (r104 [v18,v19]).bind fun v20=>
                              if (v20 != 0)=true then
                               some v20
                               else (r142 x12 0 100000).bind fun v21=>
                                if v21=true→(r142 x5 0 100000).isSome=true then
                                 (r143 (v21 && ((r142 x5 0 100000).getD default)) 2).bind fun v22=>
                                  (r143 (decide (x12≤x5)) 9).bind fun v23=>
                                   (r104 [v22,v23]).bind fun v24=>
                                    if (v24 != 0)=true then
                                     some v24
                                     else (r142 x13 0 1000000).bind fun v25=>
                                      if v25=true→(r142 x6 0 1000000).isSome=true then
                                       (r143 (v25 && ((r142 x6 0 1000000).getD default)) 2).bind fun v26=>
                                        (r143 (decide (x13≤x6)) 9).bind fun v27=>
                                         (r104 [v26,v27]).bind fun v28=>
                                          if (v28 != 0)=true then
                                           some v28
                                           else (r257 x7 x0 x8 x1 x9 x2 x10 x3 x11 x4 x12 x5 x13 x6).bind fun v29=>
                                            (r142 1000000 (IntKind.i64.wrap ((IntKind.i64.wrap ((IntKind.i64.wrap ((IntKind.i64.wrap (0+v29.1))+v29.2.2.1))+v29.2.2.2.2.1))+v29.2.2.2.2.2.2.1)) (IntKind.i64.wrap ((IntKind.i64.wrap ((IntKind.i64.wrap ((IntKind.i64.wrap (0+v29.2.1))+v29.2.2.2.1))+v29.2.2.2.2.2.1))+v29.2.2.2.2.2.2.2))).bind fun v30=>
                                             (r143 v30 12).bind fun v31=>
                                              some v31
                                       else none
                                 else none
                           else none
                     else none
               else none
         else none
   else none
@[go_sem] def T200:=qT47 qu3 false r200
@[go_sem] def tb200 (k:Nat):=lk [(104,T104.sp),(142,T142.sp),(143,T143.sp),(257,T257.sp)] k
theorem tb200_ok:FnsOk Tryz.prog tb200:= .cons f104 (.cons f142 (.cons f143 (.cons f257 .nil)))
theorem f200:FnFact Tryz.prog 200 T200.sp:=by
 refine vm (tb:=tb200) (.cons f104 (.cons f142 (.cons f143 (.cons f257 .nil)))) Tryz.func200 Tryz.ntmps200 fun ⟨x7,x0,x8,x1,x9,x2,x10,x3,x11,x4,x12,x5,x13,x6⟩ r hr stop S=> ?_
 rw [uq14,r200] at hr
 refine S.gx [2,6] ?_
 refine gr ?_
 refine S.inl 0 [1,3] [] Tryz.func256 (by decide) rfl Tryz.ntmps256 (fun cx e=>drawn_ok ty_ok tb200_ok cx e) (some 11) rfl rfl rfl rfl (nL rfl) (nL rfl) ?_
 refine gs ?_
 refine gr ?_
 intro stop1 S1
 refine S1.gw [] ?_
 refine S.gw [2,6] ?_
 refine S.lp ?_
 refine S.gx [2,6] ?_
 obtain ⟨v1,hv1,hr⟩:=of_bind0 hr
 obtain ⟨hg38,hr⟩:=of_guard0 hr
 obtain ⟨v2,hv2,hr⟩:=of_bind0 hr
 obtain ⟨v3,hv3,hr⟩:=of_bind0 hr
 obtain ⟨v4,hv4,hr⟩:=of_bind0 hr
 try simp only [hv1,hv2,hv3,hv4,Option.getD_some,Option.isSome_some,true_and,and_assoc]
 repeat (first | refine gG hg38 ?_ | refine gA ?_ | refine gB ?_)
 refine S.prune [1,3,6,11,12] ?_
 refine S.gw [2] ?_
 refine iW hr (fun hc hr=>D0 hr) fun hc hr=> ?_
 refine gr ?_
 refine S.lp ?_
 refine S.gx [2,6] ?_
 obtain ⟨v5,hv5,hr⟩:=of_bind0 hr
 obtain ⟨hg37,hr⟩:=of_guard0 hr
 obtain ⟨v6,hv6,hr⟩:=of_bind0 hr
 obtain ⟨v7,hv7,hr⟩:=of_bind0 hr
 obtain ⟨v8,hv8,hr⟩:=of_bind0 hr
 try simp only [hv5,hv6,hv7,hv8,Option.getD_some,Option.isSome_some,true_and,and_assoc]
 repeat (first | refine gG hg37 ?_ | refine gA ?_ | refine gB ?_)
 refine S.prune [1,3,6,11,12] ?_
 refine S.gw [2] ?_
 refine iW hr (fun hc hr=>D0 hr) fun hc hr=> ?_
 refine gr ?_
 refine S.lp ?_
 refine S.gx [2,6] ?_
 obtain ⟨v9,hv9,hr⟩:=of_bind0 hr
 obtain ⟨hg36,hr⟩:=of_guard0 hr
 obtain ⟨v10,hv10,hr⟩:=of_bind0 hr
 obtain ⟨v11,hv11,hr⟩:=of_bind0 hr
 obtain ⟨v12,hv12,hr⟩:=of_bind0 hr
 try simp only [hv9,hv10,hv11,hv12,Option.getD_some,Option.isSome_some,true_and,and_assoc]
 repeat (first | refine gG hg36 ?_ | refine gA ?_ | refine gB ?_)
 refine S.prune [1,3,6,11,12] ?_
 refine S.gw [2] ?_
 refine iW hr (fun hc hr=>D0 hr) fun hc hr=> ?_
 refine gr ?_
 refine S.lp ?_
 refine S.gx [2,6] ?_
 obtain ⟨v13,hv13,hr⟩:=of_bind0 hr
 obtain ⟨hg35,hr⟩:=of_guard0 hr
 obtain ⟨v14,hv14,hr⟩:=of_bind0 hr
 obtain ⟨v15,hv15,hr⟩:=of_bind0 hr
 obtain ⟨v16,hv16,hr⟩:=of_bind0 hr
 try simp only [hv13,hv14,hv15,hv16,Option.getD_some,Option.isSome_some,true_and,and_assoc]
 repeat (first | refine gG hg35 ?_ | refine gA ?_ | refine gB ?_)
 refine S.prune [1,3,6,11,12] ?_
 refine S.gw [2] ?_
 refine iW hr (fun hc hr=>D0 hr) fun hc hr=> ?_
 refine gr ?_
 refine S.lp ?_
 refine S.gx [2,6] ?_
 obtain ⟨v17,hv17,hr⟩:=of_bind0 hr
 obtain ⟨hg34,hr⟩:=of_guard0 hr
 obtain ⟨v18,hv18,hr⟩:=of_bind0 hr
 obtain ⟨v19,hv19,hr⟩:=of_bind0 hr
 obtain ⟨v20,hv20,hr⟩:=of_bind0 hr
 try simp only [hv17,hv18,hv19,hv20,Option.getD_some,Option.isSome_some,true_and,and_assoc]
 repeat (first | refine gG hg34 ?_ | refine gA ?_ | refine gB ?_)
 refine S.prune [1,3,6,11,12] ?_
 refine S.gw [2] ?_
 refine iW hr (fun hc hr=>D0 hr) fun hc hr=> ?_
 refine gr ?_
 refine S.lp ?_
 refine S.gx [2,6] ?_
 obtain ⟨v21,hv21,hr⟩:=of_bind0 hr
 obtain ⟨hg33,hr⟩:=of_guard0 hr
 obtain ⟨v22,hv22,hr⟩:=of_bind0 hr
 obtain ⟨v23,hv23,hr⟩:=of_bind0 hr
 obtain ⟨v24,hv24,hr⟩:=of_bind0 hr
 try simp only [hv21,hv22,hv23,hv24,Option.getD_some,Option.isSome_some,true_and,and_assoc]
 repeat (first | refine gG hg33 ?_ | refine gA ?_ | refine gB ?_)
 refine S.prune [1,3,6,11,12] ?_
 refine S.gw [2] ?_
 refine iW hr (fun hc hr=>D0 hr) fun hc hr=> ?_
 refine gr ?_
 refine S.lp ?_
 refine S.gx [2,6] ?_
 obtain ⟨v25,hv25,hr⟩:=of_bind0 hr
 obtain ⟨hg32,hr⟩:=of_guard0 hr
 obtain ⟨v26,hv26,hr⟩:=of_bind0 hr
 obtain ⟨v27,hv27,hr⟩:=of_bind0 hr
 obtain ⟨v28,hv28,hr⟩:=of_bind0 hr
 try simp only [hv25,hv26,hv27,hv28,Option.getD_some,Option.isSome_some,true_and,and_assoc]
 repeat (first | refine gG hg32 ?_ | refine gA ?_ | refine gB ?_)
 refine S.prune [1,3,6,11,12] ?_
 refine S.gw [2] ?_
 refine iW hr (fun hc hr=>D0 hr) fun hc hr=> ?_
 refine gr ?_
 refine S.lp ?_
 refine S.gx [2,6] ?_
 obtain ⟨v29,hv29,hr⟩:=of_bind0 hr
 refine gb hv29 ?_
 refine S.lp ?_
 refine S.gw [2,6] ?_
 refine S.lp ?_
 refine S.gw [2,6] ?_
 refine S.lp ?_
 refine S.gw [2,6] ?_
 refine S.lp ?_
 refine S.gw [2,6] ?_
 refine S.lp ?_
 refine S.gx [2,6] ?_
 exact D0 hr
def r300 (a0:Int):Option (Int):=
 (r170 a0).bind fun v1=>
  (r143 v1 2).bind fun v2=>
   some v2
@[go_sem] def T300:=qT4 qu3 false r300
@[go_sem] def tb300 (k:Nat):=lk [(143,T143.sp),(170,T170.sp)] k
theorem f300:FnFact Tryz.prog 300 T300.sp:=by
 refine vm (tb:=tb300) (.cons f143 (.cons f170 .nil)) Tryz.func300 Tryz.ntmps300 fun a0 r hr stop S=> ?_
 rw [uq1,r300] at hr
 refine S.gx [] ?_
 exact D0 hr
def r258 (x0 x1:Int):Option (Int):=
 (r300 x0).bind fun v1=>
  (r300 x1).bind fun v2=>
   (r143 (decide (x0≤x1)) 9).bind fun v3=>
    (r104 [v1,v2,v3]).bind fun v4=>
     if (v4 != 0)=true then
      some v4
      else (r143 (decide ((IntKind.i64.wrap (x1 - x0))≤50)) 8).bind fun v5=>
       some v5
@[go_sem] def T258:=qT25 qu3 false r258
@[go_sem] def tb258 (k:Nat):=lk [(104,T104.sp),(143,T143.sp),(300,T300.sp)] k
theorem f258:FnFact Tryz.prog 258 T258.sp:=by
 refine vm (tb:=tb258) (.cons f104 (.cons f143 (.cons f300 .nil))) Tryz.func258 Tryz.ntmps258 fun ⟨x0,x1⟩ r hr stop S=> ?_
 rw [uq2,r258] at hr
 refine S.gx [] ?_
 exact D0 hr
def b201_1 (a0:L_II):Bd Int Int:=fun s1=>
 if (decide (s1<(a0.length:Int)))=true then
  if 0≤s1∧s1<(a0.length:Int) then
   bindC (r258 ((a0.getD s1.toNat default).1) ((a0.getD s1.toNat default).2)) fun v1=>
    if (v1 != 0)=true then
     .out (some v1)
     else .next (IntKind.i64.wrap (s1+1))
   else .out none
  else .out (some 0)
def r201 (a0:L_II):Option (Int):=
 if (decide ((a0.length:Int)>200))=true then
  some 8
  else iterC (b201_1 a0) 1000000000 0
@[go_sem] def T201:=qT5 qu3 false r201
@[go_sem] def tb201 (k:Nat):=lk [(258,T258.sp)] k
theorem f201:FnFact Tryz.prog 201 T201.sp:=by
 refine vm (tb:=tb201) (.cons f258 .nil) Tryz.func201 Tryz.ntmps201 fun a0 r hr stop S=> ?_
 rw [uq1,r201] at hr
 refine S.gx [] ?_
 refine gr ?_
 refine iW hr (fun hc hr=>D0 hr) fun hc hr=> ?_
 refine gr ?_
 refine S.li [9,10,11] [] [] (fun s1=>⟨[(9,.c (.d (encF 2 d_II a0))),sI 10 (a0.length:Int),sI 11 s1],[],[]⟩) (b201_1 a0) (fun q=>q=r) hr rfl ?_
 intro s1 hr
 unfold b201_1 at hr
 refine S.gx [] ?_
 exact D1 (S.ss [9,10,11] [] []) hr
def r280 (x0 x2 x3 x4 x1:Int):Option (Bool):=
 some (decide (x0≤x1))
@[go_sem] def T280:=qT48 qu2 false r280
theorem f280:FnFact Tryz.prog 280 T280.sp:=by
 refine vm .nil Tryz.func280 Tryz.ntmps280 fun ⟨x0,x2,x3,x4,x1⟩ r hr stop S=> ?_
 rw [uq5,r280] at hr
 refine S.gx [] ?_
 exact D0 hr
def b226_1 (x0:L_IIII) (a1:Int):Bd Int (Option (Int×Int×Int×Int)):=fun s1=>
 if (decide (s1≥0))=true then
  if 0≤s1∧s1<(x0.length:Int) then
   if 0≤s1∧s1<(x0.length:Int) then
    bindC (r280 ((x0.getD s1.toNat default).1) ((x0.getD s1.toNat default).2.1) ((x0.getD s1.toNat default).2.2.1) ((x0.getD s1.toNat default).2.2.2) a1) fun v1=>
     if v1=true then
      if 0≤s1∧s1<(x0.length:Int) then
       .out (some (some ((x0.getD s1.toNat default).1,(x0.getD s1.toNat default).2.1,(x0.getD s1.toNat default).2.2.1,(x0.getD s1.toNat default).2.2.2)))
       else .out none
      else .next (IntKind.i64.wrap (s1 - 1))
    else .out none
   else .out none
  else .out (some none)
def r226 (x0:L_IIII) (x1:L_IIIII) (x2:L_III) (x3:L_II) (x4 x5 x6 x7 a1:Int):Option ((Option (Int×Int×Int×Int))):=
 iterC (b226_1 x0 a1) 1000000000 (IntKind.i64.wrap ((x0.length:Int) - 1))
@[go_sem] def T226:=qT49 qu29 true r226
@[go_sem] def tb226 (k:Nat):=lk [(280,T280.sp)] k
theorem tb226_ok:FnsOk Tryz.prog tb226:= .cons f280 .nil
theorem f226:FnFact Tryz.prog 226 T226.sp:=by
 refine vm (tb:=tb226) (.cons f280 .nil) Tryz.func226 Tryz.ntmps226 fun ⟨x0,x1,x2,x3,x4,x5,x6,x7,a1⟩ r hr stop S=> ?_
 rw [uq9,r226] at hr
 refine S.gx [1] ?_
 refine gr ?_
 refine S.inl 4 [4] [] Tryz.func279 (by decide) rfl Tryz.ntmps279 (fun cx e=>drawn_ok ty_ok tb226_ok cx e) (some 9) rfl rfl rfl rfl (nL rfl) (nL rfl) ?_
 refine gs ?_
 refine gr ?_
 intro stop1 S1
 refine S1.gw [1,3] ?_
 refine S1.inl 1 [2,3,4] [] Tryz.func304 (by decide) rfl Tryz.ntmps304 (fun cx e=>drawn_ok ty_ok tb226_ok cx e) (some 7) rfl rfl rfl rfl (nL rfl) (nL rfl) ?_
 refine gs ?_
 refine gr ?_
 intro stop2 S2
 refine S2.gw [] ?_
 refine S1.gw [1,3] ?_
 refine S1.range [2,3,4] Tryz.func320 (by decide) rfl Tryz.ntmps320 Tryz.results320 (fun cx e=>drawn_ok ty_ok tb226_ok cx e) (fun cx e=>drawn_ok ty_ok tb226_ok cx e) (by decide) rfl rfl (nL rfl) ?_
 intro l2 stop2 stopJ2 S2 SJ2 Y2
 refine S2.gw [3] ?_
 refine S2.li [0,1,3] [(1,1),(100002,100002),(100003,100003),(4,4),(3,3)] [] (fun s1=>⟨[(0,.c (.yld l2)),sR 1 1,sI 3 s1],[(1,[.d (encF 4 d_IIII x0)]),(100002,[.d (encF 4 d_IIII x0)]),(100003,[.clo 280 [.ref 3 0]]),(4,[.d (encP d_IIII none)]),(3,[iC a1])],[]⟩) (b226_1 x0 a1) (fun q=>q=r) hr rfl ?_
 intro s1 hr
 unfold b226_1 at hr
 refine S2.gw [3] ?_
 refine iW1 hr (fun hc hr=> ?_) fun hc hr=> ?_
 ·refine gr ?_
  refine Y2 6 [0,1,3] (some 17) rfl rfl rfl rfl (nL rfl) (by rfl) ?_
  refine gs ?_
  obtain ⟨hg4,hr⟩:=of_guard1 hr
  refine gr ?_
  intro stopA3 SA3
  refine SA3.gw [] ?_
  intro stop3 S3
  refine S3.gw [1,3] ?_
  refine S3.gx [1] ?_
  obtain ⟨hg3,hr⟩:=of_guard1 hr
  obtain ⟨v1,hv1,hr⟩:=of_bind1 hr
  refine gb hv1 ?_
  refine gr ?_
  refine iW1 hr (fun hc hr=> ?_) fun hc hr=> ?_
  ·obtain ⟨hg2,hr⟩:=of_guard1 hr
   refine gr ?_
   refine (SJ2 .ret).gx [3] ?_
   refine gr ?_
   have hr:=of_out0 hr
   refine S1.gw [1,3] ?_
   refine S.gx [1] ?_
   exact D0 hr
  ·refine S2.gx [3] ?_
   exact D1 (S2.ss [0,1,3] [(1,1),(100002,100002),(100003,100003),(4,4),(3,3)] []) hr
 ·refine gr ?_
  have hr:=of_out0 hr
  refine S1.gw [1,3] ?_
  refine S.gx [1] ?_
  exact D0 hr
def r330 (a0:Int):Option (Int):=
 some (if 1000000<a0 then 1000000 else a0)
@[go_sem] def T330:=qT4 qu3 false r330
theorem f330:FnFact Tryz.prog 330 T330.sp:=by
 refine vm .nil Tryz.func330 Tryz.ntmps330 fun a0 r hr stop S=> ?_
 rw [uq1,r330] at hr
 refine S.gx [] ?_
 exact D0 hr
def r331 (a0 a1 x1 x2 x3 x0:Int):Option (Int):=
 if (decide (a1>0))=true then
  some (if 100000<IntKind.i64.wrap (a0+x0) then 100000 else IntKind.i64.wrap (a0+x0))
  else some (if 100000<a0 then 100000 else a0)
@[go_sem] def T331:=qT50 qu3 false r331
theorem f331:FnFact Tryz.prog 331 T331.sp:=by
 refine vm .nil Tryz.func331 Tryz.ntmps331 fun ⟨a0,a1,x1,x2,x3,x0⟩ r hr stop S=> ?_
 rw [uq6,r331] at hr
 refine S.gx [] ?_
 exact D0 hr
def r316 (x4 x5 x12 x13 x6 x7 x8 x9 x14 x15 x10 x11 x16 x17 x2 x0 x1 x3:Int):Option (Int×Int×Int×Int×Int×Int×Int×Int×Int×Int×Int×Int×Int×Int):=
 (r330 (IntKind.i64.wrap ((IntKind.i64.wrap (x4+x6))+x8))).bind fun v1=>
  (r330 (IntKind.i64.wrap ((IntKind.i64.wrap (x5+x7))+x9))).bind fun v2=>
   (r331 x10 (IntKind.i64.wrap (1000000 - (if 0<IntKind.i64.wrap (v2 - x0) then IntKind.i64.wrap (v2 - x0) else 0))) x2 x0 x1 x3).bind fun v3=>
    (r331 x11 (IntKind.i64.wrap (1000000 - (if 0<IntKind.i64.wrap (v1 - x1) then IntKind.i64.wrap (v1 - x1) else 0))) x2 x0 x1 x3).bind fun v4=>
     some ((if 0<IntKind.i64.wrap (v1 - x1) then IntKind.i64.wrap (v1 - x1) else 0),(if 0<IntKind.i64.wrap (v2 - x0) then IntKind.i64.wrap (v2 - x0) else 0),IntKind.i64.wrap (1000000 - (if 0<IntKind.i64.wrap (v2 - x0) then IntKind.i64.wrap (v2 - x0) else 0)),IntKind.i64.wrap (1000000 - (if 0<IntKind.i64.wrap (v1 - x1) then IntKind.i64.wrap (v1 - x1) else 0)),0,0,0,0,0,0,v3,v4,0,0)
@[go_sem] def T316:=qT51 qu26 false r316
@[go_sem] def tb316 (k:Nat):=lk [(330,T330.sp),(331,T331.sp)] k
theorem f316:FnFact Tryz.prog 316 T316.sp:=by
 refine vm (tb:=tb316) (.cons f330 (.cons f331 .nil)) Tryz.func316 Tryz.ntmps316 fun ⟨x4,x5,x12,x13,x6,x7,x8,x9,x14,x15,x10,x11,x16,x17,x2,x0,x1,x3⟩ r hr stop S=> ?_
 rw [uq18,r316] at hr
 refine S.gx [3,7] ?_
 obtain ⟨v1,hv1,hr⟩:=of_bind0 hr
 obtain ⟨v2,hv2,hr⟩:=of_bind0 hr
 refine gb hv1 ?_
 refine gb hv2 ?_
 refine S.prune [2,3,4,5,6] ?_
 refine S.gw [7] ?_
 obtain ⟨v3,hv3,hr⟩:=of_bind0 hr
 obtain ⟨v4,hv4,hr⟩:=of_bind0 hr
 refine gb hv3 ?_
 refine gb hv4 ?_
 refine S.prune [4,6] ?_
 refine S.gx [3] ?_
 exact D0 hr
end Go.Proofs.YtnepigpnlnmlmaaGreatDoor

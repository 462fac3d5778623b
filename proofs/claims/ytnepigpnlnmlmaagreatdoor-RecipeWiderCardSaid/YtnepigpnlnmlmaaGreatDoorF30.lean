/- Contracts of functions, written by wip/dec. -/
import Derived.Test.YtnepigpnlnmlmaaGreatDoorF00
import Derived.Test.YtnepigpnlnmlmaaGreatDoorF05
import Derived.Test.YtnepigpnlnmlmaaGreatDoorF09
import Derived.Test.YtnepigpnlnmlmaaGreatDoorF10
import Derived.Test.YtnepigpnlnmlmaaGreatDoorF18
set_option linter.unusedVariables false
set_option linter.unusedSimpArgs false
set_option linter.constructorNameAsVariable false
set_option maxHeartbeats 4000000
set_option maxRecDepth 20000
namespace Go.Proofs.YtnepigpnlnmlmaaGreatDoor
open Go.dR
section
variable {β:Type} [Inhabited β] (u:β->List RV) (al:Bool)
def aqX (a0 a1:Int) (a2:aA) (a3:au) (a4 a5:aV) (a6:aA) (a7 a8:Int) (a9:aT) (a10:aG) (a11:aJ) (a12:aA) (jE jR kJ a16:Int) (a17:aJ) (ng:Int) (oO:aA) (a20:Int):List Arg:=[.agg [.int .i64 a0,.int .i64 a1,aj 2 aQ a2,aj 1 aU a3,aj 1 dh a4,aj 1 dh a5,aj 2 aQ a6,.int .i64 a7,.int .i64 a8,aj 4 bV a9,aj 5 bI a10,aj 3 bU a11,aj 2 aQ a12,.int .i64 jE,.int .i64 jR,.int .i64 kJ,.int .i64 a16,aj 3 bU a17,.int .i64 ng],.c (aj 2 aQ oO),.c (.int .i64 a20)]
def asH:List Arg->Int×Int×aA×au×aV×aV×aA×Int×Int×aT×aG×aJ×aA×Int×Int×Int×Int×aJ×Int×aA×Int
 | [.agg [c0,c1,c2,c3,c4,c5,c6,c7,c8,c9,c10,c11,c12,c13,c14,c15,c16,c17,c18],.c c19,.c c20]=>(aC c0,aC c1,aN bZ c2,aN bW c3,aN kV c4,aN kV c5,aN bZ c6,aC c7,aC c8,aN jo c9,aN gq c10,aN jc c11,aN bZ c12,aC c13,aC c14,aC c15,aC c16,aN jc c17,aC c18,aN bZ c19,aC c20)
 | _=>default
def atW (r:Int->Int->aA->au->aV->aV->aA->Int->Int->aT->aG->aJ->aA->Int->Int->Int->Int->aJ->Int->aA->Int->Option β):=mkT (u21 aqX) asH (u21 r) u al
attribute [go_sem] aqX asH atW
end
def VA (v5 v19:aA×Int):Bd Int Bool:=λs4=>
 if (decide (s4<(v19.1.length:Int)))=true then
  if 0<=s4/\s4<(v19.1.length:Int) then
   if 0<=s4/\s4<(v5.1.length:Int) then
    if (!(decide (((v19.1.getD s4.toNat default).1)>((v5.1.getD s4.toNat default).1))))=true->0<=s4/\s4<(v19.1.length:Int) then
     if (!(decide (((v19.1.getD s4.toNat default).1)>((v5.1.getD s4.toNat default).1))))=true->0<=s4/\s4<(v5.1.length:Int) then
      if ((decide (((v19.1.getD s4.toNat default).1)>((v5.1.getD s4.toNat default).1))) || (decide (((v19.1.getD s4.toNat default).2)<((v5.1.getD s4.toNat default).2))))=true then
       .out (some false)
       else .next (IntKind.i64.wrap (s4+1))
      else .out none
     else .out none
    else .out none
   else .out none
  else .out (some true)
def aaE (a1:aA) (a2:Int) (v5:aA×Int) (v15:Int×Int×aA×au×aV×aV×aA×Int×Int×aT×aG×aJ×aA×Int×Int×Int×Int×aJ×Int):Bd (Int×(List (Int×Int))) Bool:=λs3=>
 if (decide (s3.1<(s3.2.length:Int)))=true then
  if 0<=s3.1/\s3.1<(s3.2.length:Int) then
   if 0<=s3.1/\s3.1<(s3.2.length:Int) then
    .next (IntKind.i64.wrap (s3.1+1),s3.2.set s3.1.toNat ((if 0<IntKind.i64.wrap (((s3.2.getD s3.1.toNat default).1) - a2) then IntKind.i64.wrap (((s3.2.getD s3.1.toNat default).1) - a2) else 0),(if IntKind.i64.wrap (((s3.2.getD s3.1.toNat default).2)+a2)<1000 then IntKind.i64.wrap (((s3.2.getD s3.1.toNat default).2)+a2) else 1000)))
    else .out none
   else .out none
  else .out ((r25 a1).bind λv18=>
   (r24 v15.1 v15.2.1 v15.2.2.1 v15.2.2.2.1 v15.2.2.2.2.1 v15.2.2.2.2.2.1 s3.2 v15.2.2.2.2.2.2.2.1 v15.2.2.2.2.2.2.2.2.1 v15.2.2.2.2.2.2.2.2.2.1 v15.2.2.2.2.2.2.2.2.2.2.1 v15.2.2.2.2.2.2.2.2.2.2.2.1 v15.2.2.2.2.2.2.2.2.2.2.2.2.1 v15.2.2.2.2.2.2.2.2.2.2.2.2.2.1 v15.2.2.2.2.2.2.2.2.2.2.2.2.2.2.1 v15.2.2.2.2.2.2.2.2.2.2.2.2.2.2.2.1 v15.2.2.2.2.2.2.2.2.2.2.2.2.2.2.2.2.1 v15.2.2.2.2.2.2.2.2.2.2.2.2.2.2.2.2.2.1 v15.2.2.2.2.2.2.2.2.2.2.2.2.2.2.2.2.2.2 v18).bind λv19=>
    if (v19.2 != 0)=true then
     some ((v19.2 == 22) || (v19.2 == 8))
     else if ((v19.1.length:Int) != (v5.1.length:Int))=true then
      some false
      else aK (VA v5 v19) 1000000000 0)
def aaF (x1 x3:Int) (x4:aA) (x5:au) (x6 x7:aV) (x8:aA) (x9 x10:Int) (x11:aT) (x12:aG) (cO:aJ) (x14:aA) (x15 x16 x17 x18:Int) (x0:aJ) (x2:Int) (a1:aA) (a2:Int) (v5:aA×Int) (v6:Int×Int) (v10:Int×Int×aA×au×aV×aV×aA×Int×Int×aT×aG×aJ×aA×Int×Int×Int×Int×aJ×Int):Bd (Int×(List (Int×Int×Int))) Bool:=λs2=>
 if (decide (s2.1<(s2.2.length:Int)))=true then
  if 0<=s2.1/\s2.1<(s2.2.length:Int) then
   if 0<=s2.1/\s2.1<(s2.2.length:Int) then
    .next (IntKind.i64.wrap (s2.1+1),s2.2.set s2.1.toNat ((s2.2.getD s2.1.toNat default).1,(if 0<IntKind.i64.wrap (((s2.2.getD s2.1.toNat default).2.1) - a2) then IntKind.i64.wrap (((s2.2.getD s2.1.toNat default).2.1) - a2) else 0),(if IntKind.i64.wrap (((s2.2.getD s2.1.toNat default).2.2)+a2)<2000 then IntKind.i64.wrap (((s2.2.getD s2.1.toNat default).2.2)+a2) else 2000)))
    else .out none
   else .out none
  else .out ((r25 a1).bind λv13=>
   (r26 v10.1 v10.2.1 v10.2.2.1 v10.2.2.2.1 v10.2.2.2.2.1 v10.2.2.2.2.2.1 v10.2.2.2.2.2.2.1 v10.2.2.2.2.2.2.2.1 v10.2.2.2.2.2.2.2.2.1 v10.2.2.2.2.2.2.2.2.2.1 v10.2.2.2.2.2.2.2.2.2.2.1 v10.2.2.2.2.2.2.2.2.2.2.2.1 v10.2.2.2.2.2.2.2.2.2.2.2.2.1 v10.2.2.2.2.2.2.2.2.2.2.2.2.2.1 v10.2.2.2.2.2.2.2.2.2.2.2.2.2.2.1 v10.2.2.2.2.2.2.2.2.2.2.2.2.2.2.2.1 v10.2.2.2.2.2.2.2.2.2.2.2.2.2.2.2.2.1 s2.2 (if IntKind.i64.wrap (x2+a2)<3000 then IntKind.i64.wrap (x2+a2) else 3000) v13).bind λv14=>
    if ((v6.2 == 12) && (v14.2 != 12))=true then
     some false
     else (r23 x1 x3 x4 x5 x6 x7 x8 x9 x10 x11 x12 cO x14 x15 x16 x17 x18 x0 x2).bind λv15=>
      aK (aaE a1 a2 v5 v15) 1000000000 (0,v15.2.2.2.2.2.2.1))
def ae2 (x1 x3:Int) (x4:aA) (x5:au) (x6 x7:aV) (x8:aA) (x9 x10:Int) (x11:aT) (x12:aG) (cO:aJ) (x14:aA) (x15 x16 x17 x18:Int) (x0:aJ) (x2:Int) (a1:aA) (a2:Int) (v5:aA×Int) (v6:Int×Int):Bd Int Bool:=λs1=>
 if (decide (s1<(x0.length:Int)))=true then
  if 0<=s1/\s1<(x0.length:Int) then
   if 0<=(x0.getD s1.toNat default).1/\(x0.getD s1.toNat default).1<(v5.1.length:Int) then
    if (decide (((v5.1.getD ((x0.getD s1.toNat default).1).toNat default).1)>=((x0.getD s1.toNat default).2.1)))=true->0<=(x0.getD s1.toNat default).1/\(x0.getD s1.toNat default).1<(v5.1.length:Int) then
     if ((((v6.2 == 12) || (decide (s1<v6.1))) && (!((decide (((v5.1.getD ((x0.getD s1.toNat default).1).toNat default).1)>=((x0.getD s1.toNat default).2.1))) && (decide (((v5.1.getD ((x0.getD s1.toNat default).1).toNat default).2)<=((x0.getD s1.toNat default).2.2)))))) || (((v6.2 == 0) && (s1 == v6.1)) && ((decide (((v5.1.getD ((x0.getD s1.toNat default).1).toNat default).1)>=((x0.getD s1.toNat default).2.1))) && (decide (((v5.1.getD ((x0.getD s1.toNat default).1).toNat default).2)<=((x0.getD s1.toNat default).2.2))))))=true then
      .out (some false)
      else .next (IntKind.i64.wrap (s1+1))
     else .out none
    else .out none
   else .out none
  else .out ((r23 x1 x3 x4 x5 x6 x7 x8 x9 x10 x11 x12 cO x14 x15 x16 x17 x18 x0 x2).bind λv10=>
   aK (aaF x1 x3 x4 x5 x6 x7 x8 x9 x10 x11 x12 cO x14 x15 x16 x17 x18 x0 x2 a1 a2 v5 v6 v10) 1000000000 (0,v10.2.2.2.2.2.2.2.2.2.2.2.2.2.2.2.2.2.1))
def r6 (x1 x3:Int) (x4:aA) (x5:au) (x6 x7:aV) (x8:aA) (x9 x10:Int) (x11:aT) (x12:aG) (cO:aJ) (x14:aA) (x15 x16 x17 x18:Int) (x0:aJ) (x2:Int) (a1:aA) (a2:Int):Option (Bool):=
 (r9).bind λv1=>
  if (!v1)=true then
   some false
   else (r21 x1 x3 x4 x5 x6 x7 x8 x9 x10 x11 x12 cO x14 x15 x16 x17 x18 x0 x2).bind λv2=>
    if (!((!v2) || (decide ((a1.length:Int)>30))))=true->(r32 x1 x3 x4 x5 x6 x7 x8 x9 x10 x11 x12 cO x14 x15 x16 x17 x18 x0 x2).isSome=true then
     if (!(((!v2) || (decide ((a1.length:Int)>30))) || (((r32 x1 x3 x4 x5 x6 x7 x8 x9 x10 x11 x12 cO x14 x15 x16 x17 x18 x0 x2).getD default) != 0)))=true->(r28 x1 x3 x4 x5 x6 x7 x8 x9 x10 a1).isSome=true then
      if (!((((!v2) || (decide ((a1.length:Int)>30))) || (((r32 x1 x3 x4 x5 x6 x7 x8 x9 x10 x11 x12 cO x14 x15 x16 x17 x18 x0 x2).getD default) != 0)) || (((r28 x1 x3 x4 x5 x6 x7 x8 x9 x10 a1).getD default) != 0)))=true->(rJ a2 0 100).isSome=true then
       if (((((!v2) || (decide ((a1.length:Int)>30))) || (((r32 x1 x3 x4 x5 x6 x7 x8 x9 x10 x11 x12 cO x14 x15 x16 x17 x18 x0 x2).getD default) != 0)) || (((r28 x1 x3 x4 x5 x6 x7 x8 x9 x10 a1).getD default) != 0)) || (!((rJ a2 0 100).getD default)))=true then
        some true
        else (r23 x1 x3 x4 x5 x6 x7 x8 x9 x10 x11 x12 cO x14 x15 x16 x17 x18 x0 x2).bind λv3=>
         (r25 a1).bind λv4=>
          (r24 v3.1 v3.2.1 v3.2.2.1 v3.2.2.2.1 v3.2.2.2.2.1 v3.2.2.2.2.2.1 v3.2.2.2.2.2.2.1 v3.2.2.2.2.2.2.2.1 v3.2.2.2.2.2.2.2.2.1 v3.2.2.2.2.2.2.2.2.2.1 v3.2.2.2.2.2.2.2.2.2.2.1 v3.2.2.2.2.2.2.2.2.2.2.2.1 v3.2.2.2.2.2.2.2.2.2.2.2.2.1 v3.2.2.2.2.2.2.2.2.2.2.2.2.2.1 v3.2.2.2.2.2.2.2.2.2.2.2.2.2.2.1 v3.2.2.2.2.2.2.2.2.2.2.2.2.2.2.2.1 v3.2.2.2.2.2.2.2.2.2.2.2.2.2.2.2.2.1 v3.2.2.2.2.2.2.2.2.2.2.2.2.2.2.2.2.2.1 v3.2.2.2.2.2.2.2.2.2.2.2.2.2.2.2.2.2.2 v4).bind λv5=>
           (r26 v3.1 v3.2.1 v3.2.2.1 v3.2.2.2.1 v3.2.2.2.2.1 v3.2.2.2.2.2.1 v3.2.2.2.2.2.2.1 v3.2.2.2.2.2.2.2.1 v3.2.2.2.2.2.2.2.2.1 v3.2.2.2.2.2.2.2.2.2.1 v3.2.2.2.2.2.2.2.2.2.2.1 v3.2.2.2.2.2.2.2.2.2.2.2.1 v3.2.2.2.2.2.2.2.2.2.2.2.2.1 v3.2.2.2.2.2.2.2.2.2.2.2.2.2.1 v3.2.2.2.2.2.2.2.2.2.2.2.2.2.2.1 v3.2.2.2.2.2.2.2.2.2.2.2.2.2.2.2.1 v3.2.2.2.2.2.2.2.2.2.2.2.2.2.2.2.2.1 v3.2.2.2.2.2.2.2.2.2.2.2.2.2.2.2.2.2.1 v3.2.2.2.2.2.2.2.2.2.2.2.2.2.2.2.2.2.2 v4).bind λv6=>
            if (v5.2 != 0)=true then
             some ((v6.2 == v5.2) && ((v5.2 == 22) || (v5.2 == 8)))
             else if ((!(((v5.1.length:Int) != x1) || ((v6.2 != 0) && (v6.2 != 12)))) && (v6.2 == 0))=true->(rJ v6.1 0 (x0.length:Int)).isSome=true then
              if ((((v5.1.length:Int) != x1) || ((v6.2 != 0) && (v6.2 != 12))) || ((v6.2 == 0) && (!((rJ v6.1 0 (x0.length:Int)).getD default))))=true then
               some false
               else aK (ae2 x1 x3 x4 x5 x6 x7 x8 x9 x10 x11 x12 cO x14 x15 x16 x17 x18 x0 x2 a1 a2 v5 v6) 1000000000 0
              else none
       else none
      else none
     else none
@[go_sem] def T6:=atW qV false r6
@[go_sem] def tb6 (k:Nat):=lk [(9,T9.sp),(17,Yq.sp),(21,T21.sp),(23,T23.sp),(24,T24.sp),(25,T25.sp),(26,T26.sp),(28,T28.sp),(32,T32.sp)] k
theorem f6:aF Tryz.prog 6 T6.sp:=by
 refine vm (tb:=tb6) (.cons f9 (.cons f17 (.cons f21 (.cons f23 (.cons f24 (.cons f25 (.cons f26 (.cons f28 (.cons f32 .nil))))))))) Tryz.func6 Tryz.ntmps6 λ⟨x1,x3,x4,x5,x6,x7,x8,x9,x10,x11,x12,cO,x14,x15,x16,x17,x18,x0,x2,a1,a2⟩ r hr stop S=> ?_
 rw [anE,r6] at hr
 refine S.gx [4,6,10,11,16,17,43] ?_
 obtain ⟨v1,hv1,hr⟩:=aB hr
 refine gb hv1 ?_
 refine iW hr (λhc hr=>D0 hr) λhc hr=> ?_
 obtain ⟨v2,hv2,hr⟩:=aB hr
 obtain ⟨aww,hr⟩:=aP hr
 obtain ⟨awv,hr⟩:=aP hr
 obtain ⟨alX,hr⟩:=aP hr
 try simp only [hv2,oG,oI,true_and,and_assoc]
 repeat (first | refine gG aww ?_ | refine gG awv ?_ | refine gG alX ?_ | refine gA ?_ | refine gB ?_)
 refine iW hr (λhc hr=> ?_) λhc hr=> ?_
 ·refine gr ?_
  refine S.prune [] ?_
  refine S.gx [6,10,11,16,17,43] ?_
  exact D0 hr
 obtain ⟨v3,hv3,hr⟩:=aB hr
 obtain ⟨v4,hv4,hr⟩:=aB hr
 obtain ⟨v5,hv5,hr⟩:=aB hr
 refine gb hv3 ?_
 refine gb hv4 ?_
 refine gb hv5 ?_
 refine S.prune [1,2,3,7,8] ?_
 refine S.gx [4,10,11,16,17,43] ?_
 obtain ⟨v6,hv6,hr⟩:=aB hr
 refine gb hv3 ?_
 refine gb hv4 ?_
 refine gb hv6 ?_
 refine gr ?_
 refine iW hr (λhc hr=> ?_) λhc hr=> ?_
 ·repeat (first | refine gA ?_ | refine gB ?_)
  exact D0 hr
 obtain ⟨ahd,hr⟩:=aP hr
 repeat (first | refine gG ahd ?_ | refine gA ?_ | refine gB ?_)
 refine iW hr (λhc hr=> ?_) λhc hr=> ?_
 ·refine gr ?_
  refine S.prune [] ?_
  refine S.gx [4,6,11,16,17,43] ?_
  exact D0 hr
 refine gr ?_
 refine S.prune [1,2,3,7,9,10] ?_
 refine S.gw [4,6,10,16,17,43] ?_
 refine S.li [1,2,3,7,9,10,11] [(3,3)] [(57,57)] (λs1=>⟨[(1,.c (.d (aj 2 aQ a1))),sI 2 a2,sR 3 3,sO 7 57,sI 9 v6.1,sI 10 v6.2,sI 11 s1],[(3,[iC x1,iC x3,.d (aj 2 aQ x4),.d (aj 1 aU x5),.d (aj 1 dh x6),.d (aj 1 dh x7),.d (aj 2 aQ x8),iC x9,iC x10,.d (aj 4 bV x11),.d (aj 5 bI x12),.d (aj 3 bU cO),.d (aj 2 aQ x14),iC x15,iC x16,iC x17,iC x18,.d (aj 3 bU x0),iC x2])],[(57,.owned (aj 2 aQ v5.1))]⟩) (ae2 x1 x3 x4 x5 x6 x7 x8 x9 x10 x11 x12 cO x14 x15 x16 x17 x18 x0 x2 a1 a2 v5 v6) (λq=>q=r) hr rfl ?_
 intro s1 hr
 unfold ae2 at hr
 refine S.gw [4,6,10,11,16,17,43] ?_
 refine gJ hr (λhc hr=> ?_) λhc hr=> ?_
 ·obtain ⟨hg7,hr⟩:=aH hr
  obtain ⟨XT,hr⟩:=aH hr
  obtain ⟨ZK,hr⟩:=aH hr
  repeat (first | refine gG ZK ?_ | refine gA ?_ | refine gB ?_)
  refine S.prune [1,2,3,7,9,10,11,13] ?_
  refine S.gx [4,6,10,11,17,43] ?_
  repeat (first | refine gA ?_ | refine gB ?_)
  refine gr ?_
  refine gJ hr (λhc hr=> ?_) λhc hr=>D1 (S.ss [1,2,3,7,9,10,11] [(3,3)] [(57,57)]) hr
  refine gr ?_
  refine S.prune [] ?_
  refine S.gx [4,6,10,11,16,43] ?_
  exact D0 hr
 refine gr ?_
 have hr:=bT hr
 obtain ⟨v10,yI,hr⟩:=aB hr
 refine gb yI ?_
 refine S.li [1,2,3,7,10,14,15] [(3,3),(14,14)] [(57,57),(166,166),(10166,10166),(20166,20166),(30166,30166),(40166,40166),(50166,50166),(60166,60166),(70166,70166),(80166,80166),(90166,90166)] (λs2=>⟨[(1,.c (.d (aj 2 aQ a1))),sI 2 a2,sR 3 3,sO 7 57,sI 10 v6.2,sR 14 14,sI 15 s2.1],[(3,[iC x1,iC x3,.d (aj 2 aQ x4),.d (aj 1 aU x5),.d (aj 1 dh x6),.d (aj 1 dh x7),.d (aj 2 aQ x8),iC x9,iC x10,.d (aj 4 bV x11),.d (aj 5 bI x12),.d (aj 3 bU cO),.d (aj 2 aQ x14),iC x15,iC x16,iC x17,iC x18,.d (aj 3 bU x0),iC x2]),(14,[iC v10.1,iC v10.2.1,.own 166,.own 10166,.own 20166,.own 30166,.own 40166,iC v10.2.2.2.2.2.2.2.1,iC v10.2.2.2.2.2.2.2.2.1,.own 50166,.own 60166,.own 70166,.own 80166,iC v10.2.2.2.2.2.2.2.2.2.2.2.2.2.1,iC v10.2.2.2.2.2.2.2.2.2.2.2.2.2.2.1,iC v10.2.2.2.2.2.2.2.2.2.2.2.2.2.2.2.1,iC v10.2.2.2.2.2.2.2.2.2.2.2.2.2.2.2.2.1,.own 90166,iC (if IntKind.i64.wrap (x2+a2)<3000 then IntKind.i64.wrap (x2+a2) else 3000)])],[(57,.owned (aj 2 aQ v5.1)),(166,.owned (aj 2 aQ v10.2.2.1)),(10166,.owned (aj 1 aU v10.2.2.2.1)),(20166,.owned (aj 1 dh v10.2.2.2.2.1)),(30166,.owned (aj 1 dh v10.2.2.2.2.2.1)),(40166,.owned (aj 2 aQ v10.2.2.2.2.2.2.1)),(50166,.owned (aj 4 bV v10.2.2.2.2.2.2.2.2.2.1)),(60166,.owned (aj 5 bI v10.2.2.2.2.2.2.2.2.2.2.1)),(70166,.owned (aj 3 bU v10.2.2.2.2.2.2.2.2.2.2.2.1)),(80166,.owned (aj 2 aQ v10.2.2.2.2.2.2.2.2.2.2.2.2.1)),(90166,.owned (aj 3 bU s2.2))]⟩) (aaF x1 x3 x4 x5 x6 x7 x8 x9 x10 x11 x12 cO x14 x15 x16 x17 x18 x0 x2 a1 a2 v5 v6 v10) (λq=>q=r) hr rfl ?_
 intro s2 hr
 unfold aaF at hr
 refine S.gw [4,6,10,11,16,17,43] ?_
 refine gJ hr (λhc hr=>D1 (S.ss [1,2,3,7,10,14,15] [(3,3),(14,14)] [(57,57),(166,166),(10166,10166),(20166,20166),(30166,30166),(40166,40166),(50166,50166),(60166,60166),(70166,70166),(80166,80166),(90166,90166)]) hr) λhc hr=> ?_
 refine gr ?_
 have hr:=bT hr
 obtain ⟨v13,GV,hr⟩:=aB hr
 obtain ⟨v14,UD,hr⟩:=aB hr
 try simp only [GV,UD,Option.getD_some,Option.isSome_some,true_and,and_assoc]
 repeat (first | refine gA ?_ | refine gB ?_)
 refine iW hr (λhc hr=>D0 hr) λhc hr=> ?_
 obtain ⟨v15,adv,hr⟩:=aB hr
 refine gb adv ?_
 refine S.li [1,2,7,19,20] [(19,19)] [(57,57),(216,216),(10216,10216),(20216,20216),(30216,30216),(40216,40216),(50216,50216),(60216,60216),(70216,70216),(80216,80216),(90216,90216)] (λs3=>⟨[(1,.c (.d (aj 2 aQ a1))),sI 2 a2,sO 7 57,sR 19 19,sI 20 s3.1],[(19,[iC v15.1,iC v15.2.1,.own 216,.own 10216,.own 20216,.own 30216,.own 40216,iC v15.2.2.2.2.2.2.2.1,iC v15.2.2.2.2.2.2.2.2.1,.own 50216,.own 60216,.own 70216,.own 80216,iC v15.2.2.2.2.2.2.2.2.2.2.2.2.2.1,iC v15.2.2.2.2.2.2.2.2.2.2.2.2.2.2.1,iC v15.2.2.2.2.2.2.2.2.2.2.2.2.2.2.2.1,iC v15.2.2.2.2.2.2.2.2.2.2.2.2.2.2.2.2.1,.own 90216,iC v15.2.2.2.2.2.2.2.2.2.2.2.2.2.2.2.2.2.2])],[(57,.owned (aj 2 aQ v5.1)),(216,.owned (aj 2 aQ v15.2.2.1)),(10216,.owned (aj 1 aU v15.2.2.2.1)),(20216,.owned (aj 1 dh v15.2.2.2.2.1)),(30216,.owned (aj 1 dh v15.2.2.2.2.2.1)),(40216,.owned (aj 2 aQ s3.2)),(50216,.owned (aj 4 bV v15.2.2.2.2.2.2.2.2.2.1)),(60216,.owned (aj 5 bI v15.2.2.2.2.2.2.2.2.2.2.1)),(70216,.owned (aj 3 bU v15.2.2.2.2.2.2.2.2.2.2.2.1)),(80216,.owned (aj 2 aQ v15.2.2.2.2.2.2.2.2.2.2.2.2.1)),(90216,.owned (aj 3 bU v15.2.2.2.2.2.2.2.2.2.2.2.2.2.2.2.2.2.1))]⟩) (aaE a1 a2 v5 v15) (λq=>q=r) hr rfl ?_
 intro s3 hr
 unfold aaE at hr
 refine S.gw [4,6,10,11,16,17,43] ?_
 refine gJ hr (λhc hr=>D1 (S.ss [1,2,7,19,20] [(19,19)] [(57,57),(216,216),(10216,10216),(20216,20216),(30216,30216),(40216,40216),(50216,50216),(60216,60216),(70216,70216),(80216,80216),(90216,90216)]) hr) λhc hr=> ?_
 refine gr ?_
 have hr:=bT hr
 obtain ⟨v18,Nu,hr⟩:=aB hr
 obtain ⟨v19,UC,hr⟩:=aB hr
 refine gb Nu ?_
 refine gb UC ?_
 refine iW hr (λhc hr=> ?_) λhc hr=> ?_
 ·repeat (first | refine gA ?_ | refine gB ?_)
  exact D0 hr
 refine gr ?_
 refine iW hr (λhc hr=>D0 hr) λhc hr=> ?_
 refine gr ?_
 refine S.li [7,22,24] [] [(57,57),(251,251)] (λs4=>⟨[sO 7 57,sO 22 251,sI 24 s4],[],[(57,.owned (aj 2 aQ v5.1)),(251,.owned (aj 2 aQ v19.1))]⟩) (VA v5 v19) (λq=>q=r) hr rfl ?_
 intro s4 hr
 unfold VA at hr
 refine S.gw [4,6,10,11,16,17,43] ?_
 refine gJ hr (λhc hr=> ?_) λhc hr=>D0 hr
 obtain ⟨awy,hr⟩:=aH hr
 obtain ⟨awx,hr⟩:=aH hr
 obtain ⟨ZL,hr⟩:=aH hr
 obtain ⟨ahe,hr⟩:=aH hr
 repeat (first | refine gG ZL ?_ | refine gG ahe ?_ | refine gA ?_ | refine gB ?_)
 refine gJ hr (λhc hr=> ?_) λhc hr=>D1 (S.ss [7,22,24] [] [(57,57),(251,251)]) hr
 refine gr ?_
 refine S.prune [] ?_
 refine S.gx [4,6,10,11,16,17] ?_
 exact D0 hr
end Go.Proofs.YtnepigpnlnmlmaaGreatDoor

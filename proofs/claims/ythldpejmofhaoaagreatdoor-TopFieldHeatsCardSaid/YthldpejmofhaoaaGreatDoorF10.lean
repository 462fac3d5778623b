/- Contracts of functions, written by wip/dec. -/
import Derived.Test.YthldpejmofhaoaaGreatDoorF00
import Derived.Test.YthldpejmofhaoaaGreatDoorF02
import Derived.Test.YthldpejmofhaoaaGreatDoorF04
import Derived.Test.YthldpejmofhaoaaGreatDoorF05
import Derived.Test.YthldpejmofhaoaaGreatDoorF06
import Derived.Test.YthldpejmofhaoaaGreatDoorF07
import Derived.Test.YthldpejmofhaoaaGreatDoorF08
import Derived.Test.YthldpejmofhaoaaGreatDoorF09
set_option linter.unusedVariables false
set_option linter.unusedSimpArgs false
set_option linter.constructorNameAsVariable false
set_option maxHeartbeats 4000000
set_option maxRecDepth 20000
namespace Go.Proofs.YthldpejmofhaoaaGreatDoor
open Go.Abs
def b4_2 (x1 x2:Int) (x3:L_II) (x4:L_LIIE) (x6:Int) (x0:L_III) (x7:L_II) (x5:L_I) (x9 x8 x11 x12 x10 x13:Int) (s1:Int×(List (L_I×Int))×Int×(List (Int))):Bd ((List (Int))×Int) (Ctl (Int×(List (L_I×Int))×Int×(List (Int))) (Bool)):=fun s2=>
 if (decide (s2.2<(x0.length:Int)))=true then
  bindC (r14 x1 x2 x3 x4) fun v7=>
   if 0≤s2.2∧s2.2<(s1.2.2.2.length:Int) then
    bindC (r31 v7.1 v7.2.1 v7.2.2.1 v7.2.2.2 (s1.2.2.2.getD s2.2.toNat default)) fun v8=>
     if (!(v8.2.2 != 0))=true→(r11 v8.1 1 1099511627776).isSome=true then
      if (!((v8.2.2 != 0) || (!((r11 v8.1 1 1099511627776).getD default))))=true→(r11 v8.2.1 1 1099511627776).isSome=true then
       if (((v8.2.2 != 0) || (!((r11 v8.1 1 1099511627776).getD default))) || (!((r11 v8.2.1 1 1099511627776).getD default)))=true then
        .out (some (.out (some false)))
        else bindC (r32 v8.1 v8.2.1) fun v9=>
         if (s2.1.length+1)*8≤140737488355328∧s2.1.length+1≤9223372036854775807 then
          .next (s2.1++[v9],IntKind.i64.wrap (s2.2+1))
          else .out none
       else .out none
      else .out none
    else .out none
  else .out (some (bindC (r17 s2.1) fun v14=>
   bindC (r33 v14 x12) fun v15=>
    if ((v15.2 != 0) || ((v15.1.length:Int) != (x0.length:Int)))=true then
     .out (some false)
     else bindC (r29 x6 x0) fun v16=>
      bindC (r35 v15.1) fun v17=>
       bindC (r34 v16.1 v16.2 x9 v17 x8) fun v18=>
        if (!((v18.2 != 0) || ((v18.1.length:Int) != (x0.length:Int))))=true→(r36 x1 x2 x3 x4 v18.1 x10).isSome=true then
         if (!(((v18.2 != 0) || ((v18.1.length:Int) != (x0.length:Int))) || (((r36 x1 x2 x3 x4 v18.1 x10).getD default) != 0)))=true→(r37 v18.1).isSome=true then
          if ((((v18.2 != 0) || ((v18.1.length:Int) != (x0.length:Int))) || (((r36 x1 x2 x3 x4 v18.1 x10).getD default) != 0)) || (((r37 v18.1).getD default) != x8))=true then
           .out (some false)
           else bindC (r17 v18.1) fun v19=>
            bindC (r14 x1 x2 x3 x4) fun v20=>
             bindC (r17 s1.2.2.2) fun v21=>
              bindC (r19 v19 x10) fun v22=>
               bindC (r38 v20.1 v20.2.1 v20.2.2.1 v20.2.2.2 v21 v22.1 v22.2) fun v23=>
                if (v23.2 == 22)=true then
                 .out ((r17 x5).bind fun v24=>
                  (r21 s1.2.1).bind fun v25=>
                   (r20 v20.1 v20.2.1 v20.2.2.1 v20.2.2.2 v24 v25).bind fun v26=>
                    if ((v26.2.2.2.2 == 0) && (v26.2.1 == s1.1))=true→(r37 s1.2.2.2).isSome=true then
                     if ((((v26.2.2.2.2 == 0) && (v26.2.1 == s1.1)) && (v26.2.2.2.1 == ((r37 s1.2.2.2).getD default))) && ((IntKind.i64.wrap (v26.1+v26.2.1)) == (IntKind.i64.wrap (v26.2.2.1+v26.2.2.2.1))))=true→(r39 x1 x2 x3 x4 x6 x0 x7 x5 x9 x8 x11 x12 x10 x13).isSome=true then
                      some (((((v26.2.2.2.2 == 0) && (v26.2.1 == s1.1)) && (v26.2.2.2.1 == ((r37 s1.2.2.2).getD default))) && ((IntKind.i64.wrap (v26.1+v26.2.1)) == (IntKind.i64.wrap (v26.2.2.1+v26.2.2.2.1)))) && ((r39 x1 x2 x3 x4 x6 x0 x7 x5 x9 x8 x11 x12 x10 x13).getD default))
                      else none
                     else none)
                 else if (!((v23.2 != 0) || ((v23.1.length:Int) != (x0.length:Int))))=true→(r8 x1 x2 x3 x4 v23.1).isSome=true then
                  if (((v23.2 != 0) || ((v23.1.length:Int) != (x0.length:Int))) || (((r8 x1 x2 x3 x4 v23.1).getD default) != 0))=true then
                   .out (some false)
                   else bindC (r17 v23.1) fun v29=>
                    if (s1.2.1.length+1)*32≤140737488355328∧s1.2.1.length+1≤9223372036854775807 then
                     .next (IntKind.i64.wrap (s1.1+x8),s1.2.1++[(v19,x10)],IntKind.i64.wrap (s1.2.2.1+1),v29)
                     else .out none
                  else .out none
          else .out none
         else .out none))
def b4_1 (x1 x2:Int) (x3:L_II) (x4:L_LIIE) (x6:Int) (x0:L_III) (x7:L_II) (x5:L_I) (x9 x8 x11 x12 x10 x13:Int):Bd (Int×(List (L_I×Int))×Int×(List (Int))) Bool:=fun s1=>
 if (decide (s1.2.2.1<x11))=true then
  (iterC (b4_2 x1 x2 x3 x4 x6 x0 x7 x5 x9 x8 x11 x12 x10 x13 s1) 1000000000 ([],0)).getD (.out none)
  else .out ((r14 x1 x2 x3 x4).bind fun v34=>
   (r17 x5).bind fun v35=>
    (r21 s1.2.1).bind fun v36=>
     (r20 v34.1 v34.2.1 v34.2.2.1 v34.2.2.2 v35 v36).bind fun v37=>
      if ((v37.2.2.2.2 == 0) && (v37.2.1 == s1.1))=true→(r37 s1.2.2.2).isSome=true then
       if ((((v37.2.2.2.2 == 0) && (v37.2.1 == s1.1)) && (v37.2.2.2.1 == ((r37 s1.2.2.2).getD default))) && ((IntKind.i64.wrap (v37.1+v37.2.1)) == (IntKind.i64.wrap (v37.2.2.1+v37.2.2.2.1))))=true→(r39 x1 x2 x3 x4 x6 x0 x7 x5 x9 x8 x11 x12 x10 x13).isSome=true then
        some (((((v37.2.2.2.2 == 0) && (v37.2.1 == s1.1)) && (v37.2.2.2.1 == ((r37 s1.2.2.2).getD default))) && ((IntKind.i64.wrap (v37.1+v37.2.1)) == (IntKind.i64.wrap (v37.2.2.1+v37.2.2.2.1)))) && ((r39 x1 x2 x3 x4 x6 x0 x7 x5 x9 x8 x11 x12 x10 x13).getD default))
        else none
       else none)
def r4 (x1 x2:Int) (x3:L_II) (x4:L_LIIE) (x6:Int) (x0:L_III) (x7:L_II) (x5:L_I) (x9 x8 x11 x12 x10 x13:Int):Option (Bool):=
 (r25).bind fun v1=>
  if (!(!v1))=true→(r6).isSome=true then
   if ((!v1) || (!((r6).getD default)))=true then
    some false
    else (r7 x1 x2 x3 x4).bind fun v2=>
     if (!((!v2) || (decide ((x0.length:Int)>4))))=true→(r26 x6 x0 x7).isSome=true then
      if (!(((((!v2) || (decide ((x0.length:Int)>4))) || (((r26 x6 x0 x7).getD default) != 0)) || (x1 != (x0.length:Int))) || (decide ((x5.length:Int)>12))))=true→(r8 x1 x2 x3 x4 x5).isSome=true then
       if (!((((((!v2) || (decide ((x0.length:Int)>4))) || (((r26 x6 x0 x7).getD default) != 0)) || (x1 != (x0.length:Int))) || (decide ((x5.length:Int)>12))) || (((r8 x1 x2 x3 x4 x5).getD default) != 0)))=true→(r11 x9 1 8).isSome=true then
        if (!(((((((!v2) || (decide ((x0.length:Int)>4))) || (((r26 x6 x0 x7).getD default) != 0)) || (x1 != (x0.length:Int))) || (decide ((x5.length:Int)>12))) || (((r8 x1 x2 x3 x4 x5).getD default) != 0)) || (!((r11 x9 1 8).getD default))))=true→(r11 x8 0 9000).isSome=true then
         if (!((((((((!v2) || (decide ((x0.length:Int)>4))) || (((r26 x6 x0 x7).getD default) != 0)) || (x1 != (x0.length:Int))) || (decide ((x5.length:Int)>12))) || (((r8 x1 x2 x3 x4 x5).getD default) != 0)) || (!((r11 x9 1 8).getD default))) || (!((r11 x8 0 9000).getD default))))=true→(r11 x11 0 10).isSome=true then
          if (!(((((((((!v2) || (decide ((x0.length:Int)>4))) || (((r26 x6 x0 x7).getD default) != 0)) || (x1 != (x0.length:Int))) || (decide ((x5.length:Int)>12))) || (((r8 x1 x2 x3 x4 x5).getD default) != 0)) || (!((r11 x9 1 8).getD default))) || (!((r11 x8 0 9000).getD default))) || (!((r11 x11 0 10).getD default))))=true→(r11 x12 1 3000).isSome=true then
           if (!((((((((((!v2) || (decide ((x0.length:Int)>4))) || (((r26 x6 x0 x7).getD default) != 0)) || (x1 != (x0.length:Int))) || (decide ((x5.length:Int)>12))) || (((r8 x1 x2 x3 x4 x5).getD default) != 0)) || (!((r11 x9 1 8).getD default))) || (!((r11 x8 0 9000).getD default))) || (!((r11 x11 0 10).getD default))) || (!((r11 x12 1 3000).getD default))))=true→(r10 x1 x2 x3 x4 x10).isSome=true then
            if (((((((((((!v2) || (decide ((x0.length:Int)>4))) || (((r26 x6 x0 x7).getD default) != 0)) || (x1 != (x0.length:Int))) || (decide ((x5.length:Int)>12))) || (((r8 x1 x2 x3 x4 x5).getD default) != 0)) || (!((r11 x9 1 8).getD default))) || (!((r11 x8 0 9000).getD default))) || (!((r11 x11 0 10).getD default))) || (!((r11 x12 1 3000).getD default))) || (((r10 x1 x2 x3 x4 x10).getD default) != 0))=true then
             some true
             else (r29 x6 x0).bind fun v3=>
              (r28 v3.1 v3.2).bind fun v4=>
               (r27 v4).bind fun v5=>
                if (!(v5.2.2 != 0))=true→(r30 v5.1 v5.2.1 x6 x0).isSome=true then
                 if ((v5.2.2 != 0) || (!((r30 v5.1 v5.2.1 x6 x0).getD default)))=true then
                  some false
                  else (r17 x5).bind fun v6=>
                   iterC (b4_1 x1 x2 x3 x4 x6 x0 x7 x5 x9 x8 x11 x12 x10 x13) 1000000000 (0,[],0,v6)
                 else none
            else none
           else none
          else none
         else none
        else none
       else none
      else none
   else none
def T4:=qT64 qu2 false r4
attribute [go_sem] T4
def tb4:Fns:=lk [(6,T6.sp),(7,T7.sp),(8,T8.sp),(10,T10.sp),(11,T11.sp),(14,T14.sp),(17,T17.sp),(19,T19.sp),(20,T20.sp),(21,T21.sp),(25,T25.sp),(26,T26.sp),(27,T27.sp),(28,T28.sp),(29,T29.sp),(30,T30.sp),(31,T31.sp),(32,T32.sp),(33,T33.sp),(34,T34.sp),(35,T35.sp),(36,T36.sp),(37,T37.sp),(38,T38.sp),(39,T39.sp)]
theorem tb4_ok:FnsOk Tryz.prog tb4:= .cons f6 (.cons f7 (.cons f8 (.cons f10 (.cons f11 (.cons f14 (.cons f17 (.cons f19 (.cons f20 (.cons f21 (.cons f25 (.cons f26 (.cons f27 (.cons f28 (.cons f29 (.cons f30 (.cons f31 (.cons f32 (.cons f33 (.cons f34 (.cons f35 (.cons f36 (.cons f37 (.cons f38 (.cons f39 .nil))))))))))))))))))))))))
theorem tk4:tb4 6=some T6.sp∧tb4 7=some T7.sp∧tb4 8=some T8.sp∧tb4 10=some T10.sp∧tb4 11=some T11.sp∧tb4 14=some T14.sp∧tb4 17=some T17.sp∧tb4 19=some T19.sp∧tb4 20=some T20.sp∧tb4 21=some T21.sp∧tb4 25=some T25.sp∧tb4 26=some T26.sp∧tb4 27=some T27.sp∧tb4 28=some T28.sp∧tb4 29=some T29.sp∧tb4 30=some T30.sp∧tb4 31=some T31.sp∧tb4 32=some T32.sp∧tb4 33=some T33.sp∧tb4 34=some T34.sp∧tb4 35=some T35.sp∧tb4 36=some T36.sp∧tb4 37=some T37.sp∧tb4 38=some T38.sp∧tb4 39=some T39.sp:=⟨rfl,rfl,rfl,rfl,rfl,rfl,rfl,rfl,rfl,rfl,rfl,rfl,rfl,rfl,rfl,rfl,rfl,rfl,rfl,rfl,rfl,rfl,rfl,rfl,rfl⟩
section
attribute [local go_sem] tk4 Tryz.results4
theorem f4:FnFact Tryz.prog 4 T4.sp:=by
 refine valid_m ty_ok tb4_ok Tryz.func4 rfl Tryz.ntmps4 fun ⟨x1,x2,x3,x4,x6,x0,x7,x5,x9,x8,x11,x12,x10,x13⟩ r hr=>⟨nL rfl,fun stop S=> ?_⟩
 replace hr:r4 x1 x2 x3 x4 x6 x0 x7 x5 x9 x8 x11 x12 x10 x13=some r:=hr
 unfold r4 at hr
 refine S.gx [5,6,13,17,20,24,26,27,29,32] ?_
 obtain ⟨v1,hv1,hr⟩:=of_bind0 hr
 obtain ⟨hg48,hr⟩:=of_guard0 hr
 try simp only [hv1,oG,oI,true_and,and_assoc]
 repeat (first | refine gG hg48 ?_ | refine gA ?_ | refine gB ?_)
 refine iW hr (fun hc hr=>D0 hr) fun hc hr=> ?_
 obtain ⟨v2,hv2,hr⟩:=of_bind0 hr
 obtain ⟨hg41,hr⟩:=of_guard0 hr
 obtain ⟨hg42,hr⟩:=of_guard0 hr
 obtain ⟨hg43,hr⟩:=of_guard0 hr
 obtain ⟨hg44,hr⟩:=of_guard0 hr
 obtain ⟨hg45,hr⟩:=of_guard0 hr
 obtain ⟨hg46,hr⟩:=of_guard0 hr
 obtain ⟨hg47,hr⟩:=of_guard0 hr
 try simp only [hv2,oG,oI,true_and,and_assoc]
 repeat (first | refine gG hg41 ?_ | refine gG hg42 ?_ | refine gG hg43 ?_ | refine gG hg44 ?_ | refine gG hg45 ?_ | refine gG hg46 ?_ | refine gG hg47 ?_ | refine gA ?_ | refine gB ?_)
 refine iW hr (fun hc hr=> ?_) fun hc hr=> ?_
 ·refine gr ?_
  refine S.prune [] ?_
  refine S.gx [6,13,17,20,24,26,27,29,32] ?_
  exact D0 hr
 ·refine gr ?_
  refine S.prune [3,4,5,7] ?_
  refine S.gx [5,13,17,20,24,26,27,29,32] ?_
  obtain ⟨v3,hv3,hr⟩:=of_bind0 hr
  obtain ⟨v4,hv4,hr⟩:=of_bind0 hr
  obtain ⟨v5,hv5,hr⟩:=of_bind0 hr
  refine gb hv3 ?_
  refine gb hv4 ?_
  refine gb hv5 ?_
  obtain ⟨hg40,hr⟩:=of_guard0 hr
  repeat (first | refine gG hg40 ?_ | refine gA ?_ | refine gB ?_)
  refine iW hr (fun hc hr=>D0 hr) fun hc hr=> ?_
  obtain ⟨v6,hv6,hr⟩:=of_bind0 hr
  refine gb hv6 ?_
  refine S.own0 12 1001200 2 rfl rfl ?_
  refine S.sees [3,4,5,7,10,11,12,13] [(3,3),(4,4),(5,5)] [(1001200,1001200),(118,118)] ?_ (Stop.iter S (fun s1=>⟨[(3,.c (.ref 3 0)),(4,.c (.ref 4 0)),(5,.c (.ref 5 0)),(7,.c (.d (.int .i64 (x0.length:Int)))),(10,.c (.own 118)),(11,.c (.d (.int .i64 s1.1))),(12,.c (.own 1001200)),(13,.c (.d (.int .i64 s1.2.2.1)))],[(3,[.d (.int .i64 x1),.d (.int .i64 x2),.d (encF 2 d_II x3),.d (encF 1 d_LIIE x4)]),(4,[.d (.int .i64 x6),.d (encF 3 d_III x0),.d (encF 2 d_II x7)]),(5,[.d (encF 1 d_I x5),.d (.int .i64 x9),.d (.int .i64 x8),.d (.int .i64 x11),.d (.int .i64 x12),.d (.int .i64 x10),.d (.int .i64 x13)])],[(1001200,.owned (encF 2 d_LIEI s1.2.1)),(118,.owned (encF 1 d_I s1.2.2.2))]⟩) (b4_1 x1 x2 x3 x4 x6 x0 x7 x5 x9 x8 x11 x12 x10 x13) (fun q=>q=r) hr rfl ?_)
  ·exact lf
  ·intro s1 hr
   unfold b4_1 at hr
   refine S.gx [5,6,13,17,20,24,26,27,29,32] ?_
   refine gr ?_
   refine iW1 hr (fun hc hr=> ?_) fun hc hr=> ?_
   ·refine gr ?_
    refine S.own0 14 1001400 1 rfl rfl ?_
    obtain ⟨q2,hq,hr⟩:=of_iter1 hr
    refine S.sees [3,4,5,7,10,11,12,13,14,15] [(3,3),(4,4),(5,5)] [(1001400,1001400),(118,118),(1001200,1001200)] ?_ (Stop.iter S (fun s2=>⟨[(3,.c (.ref 3 0)),(4,.c (.ref 4 0)),(5,.c (.ref 5 0)),(7,.c (.d (.int .i64 (x0.length:Int)))),(10,.c (.own 118)),(11,.c (.d (.int .i64 s1.1))),(12,.c (.own 1001200)),(13,.c (.d (.int .i64 s1.2.2.1))),(14,.c (.own 1001400)),(15,.c (.d (.int .i64 s2.2)))],[(3,[.d (.int .i64 x1),.d (.int .i64 x2),.d (encF 2 d_II x3),.d (encF 1 d_LIIE x4)]),(4,[.d (.int .i64 x6),.d (encF 3 d_III x0),.d (encF 2 d_II x7)]),(5,[.d (encF 1 d_I x5),.d (.int .i64 x9),.d (.int .i64 x8),.d (.int .i64 x11),.d (.int .i64 x12),.d (.int .i64 x10),.d (.int .i64 x13)])],[(1001400,.owned (encF 1 d_I s2.1)),(118,.owned (encF 1 d_I s1.2.2.2)),(1001200,.owned (encF 2 d_LIEI s1.2.1))]⟩) (b4_2 x1 x2 x3 x4 x6 x0 x7 x5 x9 x8 x11 x12 x10 x13 s1) _ hq hr ?_)
    ·exact lf
    ·intro s2 hr
     unfold b4_2 at hr
     refine S.gx [5,6,13,17,20,24,26,27,29,32] ?_
     refine gr ?_
     refine iW1 hr (fun hc hr=> ?_) fun hc hr=> ?_
     ·obtain ⟨v7,hv7,hr⟩:=of_bind1 hr
      obtain ⟨hg11,hr⟩:=of_guard1 hr
      obtain ⟨v8,hv8,hr⟩:=of_bind1 hr
      obtain ⟨hg12,hr⟩:=of_guard1 hr
      obtain ⟨hg13,hr⟩:=of_guard1 hr
      try simp only [hv7,hv8,Option.getD_some,Option.isSome_some,true_and,and_assoc]
      repeat (first | refine gG hg12 ?_ | refine gG hg13 ?_ | refine gA ?_ | refine gB ?_)
      refine iW1 hr (fun hc hr=> ?_) fun hc hr=> ?_
      ·refine gr ?_
       refine S.prune [] ?_
       refine S.gx [5,6,13,17,24,26,27,29,32] ?_
       refine gr ?_
       refine gr ?_
       replace hr:=goodC_out hr
       exact D0 hr
      ·obtain ⟨v9,hv9,hr⟩:=of_bind1 hr
       obtain ⟨hg10,hr⟩:=of_guard1 hr
       refine gb hv9 ?_
       refine S.prune [3,4,5,7,10,11,12,13,14,15] ?_
       refine S.gx [5,6,13,20,24,26,27,29,32] ?_
       exact D1 (S.ss [3,4,5,7,10,11,12,13,14,15] [(3,3),(4,4),(5,5)] [(161,1001400),(118,118),(1001200,1001200)]) hr
     ·refine gr ?_
      replace hr:=goodC_out hr
      obtain ⟨v14,hv14,hr⟩:=of_bind1 hr
      obtain ⟨v15,hv15,hr⟩:=of_bind1 hr
      try simp only [hv14,hv15,Option.getD_some,Option.isSome_some,true_and,and_assoc]
      repeat (first | refine gA ?_ | refine gB ?_)
      refine iW1 hr (fun hc hr=> ?_) fun hc hr=> ?_
      ·refine gr ?_
       refine S.prune [] ?_
       refine S.gx [5,6,13,17,20,26,27,29,32] ?_
       exact D0 hr
      ·obtain ⟨v16,hv16,hr⟩:=of_bind1 hr
       obtain ⟨v17,hv17,hr⟩:=of_bind1 hr
       obtain ⟨v18,hv18,hr⟩:=of_bind1 hr
       refine gb hv16 ?_
       refine gb hv17 ?_
       refine gb hv18 ?_
       refine S.prune [3,4,5,7,10,11,12,13,20,21] ?_
       refine S.gx [5,6,13,17,20,24,27,29,32] ?_
       obtain ⟨hg32,hr⟩:=of_guard1 hr
       obtain ⟨hg33,hr⟩:=of_guard1 hr
       repeat (first | refine gG hg32 ?_ | refine gG hg33 ?_ | refine gA ?_ | refine gB ?_)
       refine gr ?_
       refine iW1 hr (fun hc hr=> ?_) fun hc hr=> ?_
       ·refine gr ?_
        refine S.prune [] ?_
        refine S.gx [5,6,13,17,20,24,26,29,32] ?_
        exact D0 hr
       ·obtain ⟨v19,hv19,hr⟩:=of_bind1 hr
        refine gb hv19 ?_
        refine S.prune [3,4,5,7,10,11,12,13,22] ?_
        refine S.gx [5,6,13,17,20,24,26,27,32] ?_
        obtain ⟨v20,hv20,hr⟩:=of_bind1 hr
        obtain ⟨v21,hv21,hr⟩:=of_bind1 hr
        obtain ⟨v22,hv22,hr⟩:=of_bind1 hr
        obtain ⟨v23,hv23,hr⟩:=of_bind1 hr
        refine gb hv20 ?_
        refine gb hv21 ?_
        refine gb hv22 ?_
        refine gb hv23 ?_
        refine gr ?_
        refine iW1 hr (fun hc hr=> ?_) fun hc hr=> ?_
        ·refine gr ?_
         have hr:=of_out0 hr
         obtain ⟨v24,hv24,hr⟩:=of_bind0 hr
         obtain ⟨v25,hv25,hr⟩:=of_bind0 hr
         obtain ⟨v26,hv26,hr⟩:=of_bind0 hr
         obtain ⟨hg27,hr⟩:=of_guard0 hr
         obtain ⟨hg28,hr⟩:=of_guard0 hr
         try simp only [hv20,hv24,hv25,hv26,Option.getD_some,Option.isSome_some,true_and,and_assoc]
         repeat (first | refine gG hg27 ?_ | refine gG hg28 ?_ | refine gA ?_ | refine gB ?_)
         exact D0 hr
        ·obtain ⟨hg31,hr⟩:=of_guard1 hr
         repeat (first | refine gG hg31 ?_ | refine gA ?_ | refine gB ?_)
         refine iW1 hr (fun hc hr=> ?_) fun hc hr=> ?_
         ·refine gr ?_
          refine S.prune [] ?_
          refine S.gx [5,6,13,17,20,24,26,27,29] ?_
          exact D0 hr
         ·obtain ⟨v29,hv29,hr⟩:=of_bind1 hr
          obtain ⟨hg30,hr⟩:=of_guard1 hr
          refine gb hv29 ?_
          refine S.prune [3,4,5,7,10,11,12,13] ?_
          refine S.gx [5,6,17,20,24,26,27,29,32] ?_
          exact D1 (S.ss [3,4,5,7,10,11,12,13] [(3,3),(4,4),(5,5)] [(256,1001200),(248,118)]) hr
   ·refine gr ?_
    have hr:=of_out0 hr
    obtain ⟨v34,hv34,hr⟩:=of_bind0 hr
    obtain ⟨v35,hv35,hr⟩:=of_bind0 hr
    obtain ⟨v36,hv36,hr⟩:=of_bind0 hr
    obtain ⟨v37,hv37,hr⟩:=of_bind0 hr
    obtain ⟨hg38,hr⟩:=of_guard0 hr
    obtain ⟨hg39,hr⟩:=of_guard0 hr
    try simp only [hv34,hv35,hv36,hv37,Option.getD_some,Option.isSome_some,true_and,and_assoc]
    repeat (first | refine gG hg38 ?_ | refine gG hg39 ?_ | refine gA ?_ | refine gB ?_)
    exact D0 hr
end
end Go.Proofs.YthldpejmofhaoaaGreatDoor

/- Contracts of functions, written by wip/dec. -/
import Derived.Test.YtlnlpncchgimgaaGreatDoorF00
set_option linter.unusedVariables false
set_option linter.unusedSimpArgs false
set_option linter.constructorNameAsVariable false
set_option maxHeartbeats 4000000
set_option maxRecDepth 20000
namespace Go.Proofs.YtlnlpncchgimgaaGreatDoor
open Go.Abs
section
variable {β:Type} [Inhabited β] (u:β→List RV) (al:Bool)
def qw6 (a0:L_LIIE):List Arg:=[.c (encF 1 d_LIIE a0)]
def qd6:List Arg→L_LIIE
 | [.c c0]=>decF g_LIIE c0
 | _=>default
def qT6 (r:L_LIIE→Option β):=mkT (u1 qw6) qd6 (u1 r) u al
attribute [go_sem] qw6 qd6 qT6
def qw8 (a0 a1 a2 a3:Int):List Arg:=[.agg [.int .i64 a0,.int .i64 a1],.agg [.int .i64 a2,.int .i64 a3]]
def qd8:List Arg→Int×Int×Int×Int
 | [.agg [c0,c1],.agg [c2,c3]]=>(dInt c0,dInt c1,dInt c2,dInt c3)
 | _=>default
def qT8 (r:Int→Int→Int→Int→Option β):=mkT (u4 qw8) qd8 (u4 r) u al
attribute [go_sem] qw8 qd8 qT8
def qw9 (a0:L_II) (a1 a2:Int):List Arg:=[.c (encF 2 d_II a0),.agg [.int .i64 a1,.int .i64 a2],.clo 143 []]
def qd9:List Arg→L_II×Int×Int
 | [.c c0,.agg [c1,c2],.clo _ []]=>(decF g_II c0,dInt c1,dInt c2)
 | _=>default
def qT9 (r:L_II→Int→Int→Option β):=mkT (u3 qw9) qd9 (u3 r) u al
attribute [go_sem] qw9 qd9 qT9
def qw10 (a0:L_II) (a1 a2:Int):List Arg:=[.c (encF 2 d_II a0),.agg [.int .i64 a1,.int .i64 a2]]
def qd10:List Arg→L_II×Int×Int
 | [.c c0,.agg [c1,c2]]=>(decF g_II c0,dInt c1,dInt c2)
 | _=>default
def qT10 (r:L_II→Int→Int→Option β):=mkT (u3 qw10) qd10 (u3 r) u al
attribute [go_sem] qw10 qd10 qT10
end
def r25:Option (Int×Int×L_II×L_LIIE×L_I×L_I×L_II×Int×Int):=
 some (3,500,[(0,300),(1000,800),(3000,1300)],[[(300,0)],[(300,0),(1300,400)]],[0,0,0],[0,0,0],[(1000,1000),(500,500),(0,0)],0,0)
def T25:=qT0 qu0 true r25
attribute [go_sem] T25
def tb25:Fns:=lk []
theorem tb25_ok:FnsOk Tryz.prog tb25:=FnsOk.nil
section
attribute [local go_sem] Tryz.results25
theorem f25:FnFact Tryz.prog 25 T25.sp:=by
 refine valid_m ty_ok tb25_ok Tryz.func25 rfl Tryz.ntmps25 fun _ r hr=>⟨nL rfl,fun stop S=> ?_⟩
 replace hr:r25=some r:=hr
 unfold r25 at hr
 refine S.gx [] ?_
 exact D0 hr
end
def r26:Option (L_IIIIIH):=
 some [(0,400,0,2,0,Hl.nil),(2,0,1,3,0,Hl.nil)]
def T26:=qT0 qu1 true r26
attribute [go_sem] T26
def tb26:Fns:=lk []
theorem tb26_ok:FnsOk Tryz.prog tb26:=FnsOk.nil
section
attribute [local go_sem] Tryz.results26
theorem f26:FnFact Tryz.prog 26 T26.sp:=by
 refine valid_m ty_ok tb26_ok Tryz.func26 rfl Tryz.ntmps26 fun _ r hr=>⟨nL rfl,fun stop S=> ?_⟩
 replace hr:r26=some r:=hr
 unfold r26 at hr
 refine S.gx [] ?_
 exact D0 hr
end
def r110 (a0 a1 a2:Int):Option (Bool):=
 some ((decide (a1≤a0)) && (decide (a0≤a2)))
def T110:=qT1 qu2 false r110
attribute [go_sem] T110
def tb110:Fns:=lk []
theorem tb110_ok:FnsOk Tryz.prog tb110:=FnsOk.nil
section
attribute [local go_sem] Tryz.results110
theorem f110:FnFact Tryz.prog 110 T110.sp:=by
 refine valid_m ty_ok tb110_ok Tryz.func110 rfl Tryz.ntmps110 fun ⟨a0,a1,a2⟩ r hr=>⟨nL rfl,fun stop S=> ?_⟩
 replace hr:r110 a0 a1 a2=some r:=hr
 unfold r110 at hr
 refine S.gx [] ?_
 repeat (first | refine gA ?_ | refine gB ?_)
 exact D0 hr
end
def r78 (a0:Bool) (a1:Int):Option (Int):=
 if a0=true then
  some 0
  else some a1
def T78:=qT2 qu3 false r78
attribute [go_sem] T78
def tb78:Fns:=lk []
theorem tb78_ok:FnsOk Tryz.prog tb78:=FnsOk.nil
section
attribute [local go_sem] Tryz.results78
theorem f78:FnFact Tryz.prog 78 T78.sp:=by
 refine valid_m ty_ok tb78_ok Tryz.func78 rfl Tryz.ntmps78 fun ⟨a0,a1⟩ r hr=>⟨nL rfl,fun stop S=> ?_⟩
 replace hr:r78 a0 a1=some r:=hr
 unfold r78 at hr
 refine S.gx [] ?_
 exact D0 hr
end
def b77_1 (a0:L_I):Bd Int Int:=fun s1=>
 if (decide (s1<(a0.length:Int)))=true then
  if 0≤s1∧s1<(a0.length:Int) then
   if ((a0.getD s1.toNat default) != 0)=true then
    .out (some (a0.getD s1.toNat default))
    else .next (IntKind.i64.wrap (s1+1))
   else .out none
  else .out (some 0)
def r77 (a0:L_I):Option (Int):=
 iterC (b77_1 a0) 1000000000 0
def T77:=qT3 qu3 false r77
attribute [go_sem] T77
def tb77:Fns:=lk []
theorem tb77_ok:FnsOk Tryz.prog tb77:=FnsOk.nil
section
attribute [local go_sem] Tryz.results77
theorem f77:FnFact Tryz.prog 77 T77.sp:=by
 refine valid_m ty_ok tb77_ok Tryz.func77 rfl Tryz.ntmps77 fun a0 r hr=>⟨nL rfl,fun stop S=> ?_⟩
 replace hr:r77 a0=some r:=hr
 unfold r77 at hr
 refine S.gx [] ?_
 refine gr ?_
 refine S.sees [5,6,7] [] [] ?_ (Stop.iter S (fun s1=>⟨[(5,.c (.d (encF 1 d_I a0))),(6,.c (.d (.int .i64 (a0.length:Int)))),(7,.c (.d (.int .i64 s1)))],[],[]⟩) (b77_1 a0) (fun q=>q=r) hr rfl ?_)
 ·exact lf
 ·intro s1 hr
  unfold b77_1 at hr
  refine S.gx [] ?_
  exact D1 (S.ss [5,6,7] [] []) hr
end
def r165 (a0:Int):Option (Bool):=
 (r110 a0 200 3000).bind fun v1=>
  some v1
def T165:=qT4 qu2 false r165
attribute [go_sem] T165
def tb165:Fns:=lk [(110,T110.sp)]
theorem tb165_ok:FnsOk Tryz.prog tb165:= .cons f110 .nil
theorem tk165:tb165 110=some T110.sp:=rfl
section
attribute [local go_sem] tk165 Tryz.results165
theorem f165:FnFact Tryz.prog 165 T165.sp:=by
 refine valid_m ty_ok tb165_ok Tryz.func165 rfl Tryz.ntmps165 fun a0 r hr=>⟨nL rfl,fun stop S=> ?_⟩
 replace hr:r165 a0=some r:=hr
 unfold r165 at hr
 refine S.gx [] ?_
 exact D0 hr
end
def b140_1 (a0:L_II):Bd Int (Int×Int):=fun s1=>
 if (decide (s1<(a0.length:Int)))=true then
  if 0≤s1∧s1<(a0.length:Int) then
   bindC (r110 ((a0.getD s1.toNat default).1) 0 1000000) fun v4=>
    if v4=true→(r165 ((a0.getD s1.toNat default).2)).isSome=true then
     bindC (r78 (v4 && ((r165 ((a0.getD s1.toNat default).2)).getD default)) 2) fun v5=>
      if ((v5 == 0) && (decide (s1>0)))=true then
       if 0≤IntKind.i64.wrap (s1 - 1)∧IntKind.i64.wrap (s1 - 1)<(a0.length:Int) then
        if 0≤IntKind.i64.wrap (s1 - 1)∧IntKind.i64.wrap (s1 - 1)<(a0.length:Int) then
         bindC (r78 ((decide ((IntKind.i64.wrap (((a0.getD s1.toNat default).1) - ((a0.getD (IntKind.i64.wrap (s1 - 1)).toNat default).1)))>0)) && (decide ((IntKind.i64.wrap (((a0.getD s1.toNat default).2) - ((a0.getD (IntKind.i64.wrap (s1 - 1)).toNat default).2)))>0))) 9) fun v6=>
          bindC (r78 (decide ((IntKind.i64.wrap (((a0.getD s1.toNat default).2) - ((a0.getD (IntKind.i64.wrap (s1 - 1)).toNat default).2)))≤(IntKind.i64.wrap (((a0.getD s1.toNat default).1) - ((a0.getD (IntKind.i64.wrap (s1 - 1)).toNat default).1))))) 22) fun v7=>
           bindC (r77 [v6,v7]) fun v8=>
            if (v8 != 0)=true then
             .out (some (s1,v8))
             else .next (IntKind.i64.wrap (s1+1))
         else .out none
        else .out none
       else if (v5 != 0)=true then
        .out (some (s1,v5))
        else .next (IntKind.i64.wrap (s1+1))
     else .out none
   else .out none
  else .out (some (0,0))
def r140 (a0:L_II):Option (Int×Int):=
 (r78 (decide ((a0.length:Int)≥2)) 10).bind fun v1=>
  (r78 (decide ((a0.length:Int)≤8)) 8).bind fun v2=>
   (r77 [v1,v2]).bind fun v3=>
    if (v3 != 0)=true then
     some (0,v3)
     else iterC (b140_1 a0) 1000000000 0
def T140:=qT5 qu4 false r140
attribute [go_sem] T140
def tb140:Fns:=lk [(77,T77.sp),(78,T78.sp),(110,T110.sp),(165,T165.sp)]
theorem tb140_ok:FnsOk Tryz.prog tb140:= .cons f77 (.cons f78 (.cons f110 (.cons f165 .nil)))
theorem tk140:tb140 77=some T77.sp∧tb140 78=some T78.sp∧tb140 110=some T110.sp∧tb140 165=some T165.sp:=⟨rfl,rfl,rfl,rfl⟩
section
attribute [local go_sem] tk140 Tryz.results140
theorem f140:FnFact Tryz.prog 140 T140.sp:=by
 refine valid_m ty_ok tb140_ok Tryz.func140 rfl Tryz.ntmps140 fun a0 r hr=>⟨nL rfl,fun stop S=> ?_⟩
 replace hr:r140 a0=some r:=hr
 unfold r140 at hr
 refine S.gx [10] ?_
 obtain ⟨v1,hv1,hr⟩:=of_bind0 hr
 obtain ⟨v2,hv2,hr⟩:=of_bind0 hr
 obtain ⟨v3,hv3,hr⟩:=of_bind0 hr
 refine gb hv1 ?_
 refine gb hv2 ?_
 refine gb hv3 ?_
 refine iW hr (fun hc hr=>D0 hr) fun hc hr=> ?_
 refine gr ?_
 refine S.sees [0,23,24,25] [] [] ?_ (Stop.iter S (fun s1=>⟨[(0,.c (.d (encF 2 d_II a0))),(23,.c (.d (encF 2 d_II a0))),(24,.c (.d (.int .i64 (a0.length:Int)))),(25,.c (.d (.int .i64 s1)))],[],[]⟩) (b140_1 a0) (fun q=>q=r) hr rfl ?_)
 ·exact lf
 ·intro s1 hr
  unfold b140_1 at hr
  refine S.gx [10] ?_
  refine gr ?_
  refine iW1 hr (fun hc hr=> ?_) fun hc hr=>D0 hr
  obtain ⟨hg11,hr⟩:=of_guard1 hr
  obtain ⟨v4,hv4,hr⟩:=of_bind1 hr
  obtain ⟨hg12,hr⟩:=of_guard1 hr
  obtain ⟨v5,hv5,hr⟩:=of_bind1 hr
  try simp only [hv4,hv5,Option.getD_some,Option.isSome_some,true_and,and_assoc]
  repeat (first | refine gG hg12 ?_ | refine gA ?_ | refine gB ?_)
  refine iW1 hr (fun hc hr=> ?_) fun hc hr=>D1 (S.ss [0,23,24,25] [] []) hr
  obtain ⟨hg9,hr⟩:=of_guard1 hr
  obtain ⟨hg10,hr⟩:=of_guard1 hr
  refine gr ?_
  refine S.prune [0,5,8,9,23,24,25] ?_
  refine S.gx [] ?_
  obtain ⟨v6,hv6,hr⟩:=of_bind1 hr
  obtain ⟨v7,hv7,hr⟩:=of_bind1 hr
  obtain ⟨v8,hv8,hr⟩:=of_bind1 hr
  try simp only [hv6,hv7,hv8,Option.getD_some,Option.isSome_some,true_and,and_assoc]
  repeat (first | refine gA ?_ | refine gB ?_)
  exact D1 (S.ss [0,23,24,25] [] []) hr
end
def b108_1 (a0:L_II):Bd ((List (Int×Int))×Int) L_II:=fun s1=>
 if (decide (s1.2<(a0.length:Int)))=true then
  if 0≤s1.2∧s1.2<(a0.length:Int) then
   if (s1.1.length+1)*16≤140737488355328∧s1.1.length+1≤9223372036854775807 then
    .next (s1.1++[((a0.getD s1.2.toNat default).1,(a0.getD s1.2.toNat default).2)],IntKind.i64.wrap (s1.2+1))
    else .out none
   else .out none
  else .out (some s1.1)
def r108 (a0:L_II):Option (L_II):=
 iterC (b108_1 a0) 1000000000 ([],0)
def T108:=qT5 qu5 false r108
attribute [go_sem] T108
def tb108:Fns:=lk []
theorem tb108_ok:FnsOk Tryz.prog tb108:=FnsOk.nil
section
attribute [local go_sem] Tryz.results108
theorem f108:FnFact Tryz.prog 108 T108.sp:=by
 refine valid_m ty_ok tb108_ok Tryz.func108 rfl Tryz.ntmps108 fun a0 r hr=>⟨nL rfl,fun stop S=> ?_⟩
 replace hr:r108 a0=some r:=hr
 unfold r108 at hr
 refine S.gx [] ?_
 refine gr ?_
 refine S.own0 3 1000300 2 rfl rfl ?_
 refine S.sees [3,6,7,8] [] [(1000300,1000300)] ?_ (Stop.iter S (fun s1=>⟨[(3,.c (.own 1000300)),(6,.c (.d (encF 2 d_II a0))),(7,.c (.d (.int .i64 (a0.length:Int)))),(8,.c (.d (.int .i64 s1.2)))],[],[(1000300,.owned (encF 2 d_II s1.1))]⟩) (b108_1 a0) (fun q=>q=r) hr rfl ?_)
 ·exact lf
 ·intro s1 hr
  unfold b108_1 at hr
  refine S.gx [] ?_
  exact D1 (S.ss [3,6,7,8] [] [(19,1000300)]) hr
end
theorem grow179w (w:World) (m:Nat) (h0:0<m) (h1:m≤1000000) :
 Calls Tryz.prog 179 #[.slice none 0 0,.int .i64 (m:Int)] w fun e w'=>∃ v,e= .returned v∧∃ cap c,v= .slice (some ⟨w.heap.size,0,none⟩) 0 cap∧w'=w.drew.alloc (.cells c 196)∧c.size=cap*2:=by
 have hbytes:Tryz.t196.bytes=16:=rfl
 have hns:Builtin.nextslicecap m 0=m:=nextslicecap_zero h0
 go_enter Tryz.func179,Tryz.ntmps179
 go_wp2
 all_goals try (exfalso; simp only [hbytes,hns] at *; omega)
 all_goals go_ret
 refine ⟨_,rfl,_,rfl,_,rfl,?_⟩
 have hcap:=grownCap_ge w m 0 196
 simp only [grownCap] at hcap
 simp [Builtin.zeroCells]
 omega
theorem grow179z (w:World) :
 Calls Tryz.prog 179 #[.slice none 0 0,.int .i64 0] w fun e w'=>∃ v,e= .returned v∧v= .slice none 0 0∧w'=w:=by
 go_enter Tryz.func179,Tryz.ntmps179
 go_wp2
 all_goals go_ret
 exact ⟨_,rfl,rfl,rfl⟩
theorem grow179 (n:Int) (h0:0≤n) (h1:n≤1000000) (w:World):Calls Tryz.prog 179 #[.slice none 0 0,.int .i64 n] w fun e w'=>∃ v,e= .returned v∧GrowPost 2 w w' v:=by
 obtain ⟨m,rfl⟩:∃ m:Nat,n=m:=⟨n.toNat,by omega⟩
 rcases Nat.eq_zero_or_pos m with rfl | hm
 ·refine (grow179z w).mono ?_
  rintro e w' ⟨v,rfl,rfl,rfl⟩
  exact ⟨_,rfl,.refl _,Nat.le_refl _,fun _ _=>rfl,.inl rfl⟩
 ·refine (grow179w w m hm (by omega)).mono ?_
  rintro e w' ⟨v,rfl,cap,c,rfl,rfl,hc⟩
  have hh:(w.drew.alloc (.cells c 196)).heap=w.heap.push (.cells c 196 (0,0)):=rfl
  refine ⟨_,rfl,⟨rfl,rfl,rfl⟩,by rw [hh,Array.size_push]; exact Nat.le_succ _,fun B hB=> ?_,.inr ⟨_,cap,c,_,rfl,Nat.le_refl _,by rw [hh,Array.size_push]; exact Nat.lt_succ_self _,by rw [hh,Array.getElem?_push_size],hc⟩⟩
  rw [hh,Array.getElem?_push,if_neg (Nat.ne_of_lt hB)]
def b166_2 (a0:L_LIIE):Bd (Int×(List (Int×Int))) L_II:=fun s2=>
 if (decide (s2.1<(a0.length:Int)))=true then
  if 0≤s2.1∧s2.1<(a0.length:Int) then
   if (s2.2.length+(a0.getD s2.1.toNat default).length)*16≤140737488355328∧s2.2.length+(a0.getD s2.1.toNat default).length≤9223372036854775807 then
    .next (IntKind.i64.wrap (s2.1+1),s2.2++(a0.getD s2.1.toNat default))
    else .out none
   else .out none
  else .out (some s2.2)
def b166_1 (a0:L_LIIE):Bd (Int×Int) L_II:=fun s1=>
 if (decide (s1.2<(a0.length:Int)))=true then
  if 0≤s1.2∧s1.2<(a0.length:Int) then
   if (decide ((IntKind.i64.wrap (s1.1+((a0.getD s1.2.toNat default).length:Int)))<0))=true then
    .out none
    else .next (IntKind.i64.wrap (s1.1+((a0.getD s1.2.toNat default).length:Int)),IntKind.i64.wrap (s1.2+1))
   else .out none
  else .out (if 0≤s1.1∧s1.1≤1000000 then
   iterC (b166_2 a0) 1000000000 (0,([]:List (Int×Int)))
   else none)
def r166 (a0:L_LIIE):Option (L_II):=
 iterC (b166_1 a0) 1000000000 (0,0)
def T166:=qT6 qu5 false r166
attribute [go_sem] T166
def tb166:Fns:=lk []
theorem tb166_ok:FnsOk Tryz.prog tb166:=FnsOk.nil
section
attribute [local go_sem] Tryz.results166
theorem f166:FnFact Tryz.prog 166 T166.sp:=by
 refine valid_m ty_ok tb166_ok Tryz.func166 rfl Tryz.ntmps166 fun a0 r hr=>⟨nL rfl,fun stop S=> ?_⟩
 replace hr:r166 a0=some r:=hr
 unfold r166 at hr
 refine S.gx [9] ?_
 refine gr ?_
 refine S.sees [0,3,9,10,11] [] [] ?_ (Stop.iter S (fun s1=>⟨[(0,.c (.d (encF 1 d_LIIE a0))),(3,.c (.d (.int .i64 s1.1))),(9,.c (.d (encF 1 d_LIIE a0))),(10,.c (.d (.int .i64 (a0.length:Int)))),(11,.c (.d (.int .i64 s1.2)))],[],[]⟩) (b166_1 a0) (fun q=>q=r) hr rfl ?_)
 ·exact lf
 ·intro s1 hr
  unfold b166_1 at hr
  refine S.gx [9] ?_
  refine gr ?_
  refine iW1 hr (fun hc hr=> ?_) fun hc hr=> ?_
  ·obtain ⟨hg1,hr⟩:=of_guard1 hr
   refine gr ?_
   refine iW1 hr (fun hc hr=> ?_) fun hc hr=>D1 (S.ss [0,3,9,10,11] [] []) hr
   refine gr ?_
   first | cases hr | exact hr.elim
  ·refine gr ?_
   have hr:=of_out0 hr
   refine gr ?_
   obtain ⟨hg2,hr⟩:=of_guard0 hr
   refine gr ?_
   refine S.callGrow 1 23 24 3000024 2 rfl rfl rfl rfl (by decide) Tryz.func179 (by decide) rfl (grow179 _ hg2.1 hg2.2) ?_
   refine gs ?_
   refine gr ?_
   refine S.gx [9] ?_
   refine gr ?_
   refine gr ?_
   refine S.sees [6,25,26,27] [] [(3000024,3000024)] ?_ (Stop.iter S (fun s2=>⟨[(6,.c (.own 3000024)),(25,.c (.d (encF 1 d_LIIE a0))),(26,.c (.d (.int .i64 (a0.length:Int)))),(27,.c (.d (.int .i64 s2.1)))],[],[(3000024,.owned (encF 2 d_II s2.2))]⟩) (b166_2 a0) (fun q=>q=r) hr rfl ?_)
   ·exact lf
   ·intro s2 hr
    unfold b166_2 at hr
    refine S.gx [9] ?_
    exact D1 (S.ss [6,25,26,27] [] [(33,3000024)]) hr
end
def r167 (a0:Int):Option (Bool):=
 some (a0 != a0)
def T167:=qT4 qu2 false r167
attribute [go_sem] T167
def tb167:Fns:=lk []
theorem tb167_ok:FnsOk Tryz.prog tb167:=FnsOk.nil
section
attribute [local go_sem] Tryz.results167
theorem f167:FnFact Tryz.prog 167 T167.sp:=by
 refine valid_m ty_ok tb167_ok Tryz.func167 rfl Tryz.ntmps167 fun a0 r hr=>⟨nL rfl,fun stop S=> ?_⟩
 replace hr:r167 a0=some r:=hr
 unfold r167 at hr
 refine S.gx [] ?_
 exact D0 hr
end
def r144 (a0 a1:Int):Option (Int):=
 (r167 a0).bind fun v1=>
  (r167 a1).bind fun v2=>
   if v1=true then
    if v2=true then
     some 0
     else some (-1)
    else if v2=true then
     some 1
     else if (decide (a0<a1))=true then
      some (-1)
      else if (decide (a0>a1))=true then
       some 1
       else some 0
def T144:=qT7 qu3 false r144
attribute [go_sem] T144
def tb144:Fns:=lk [(167,T167.sp)]
theorem tb144_ok:FnsOk Tryz.prog tb144:= .cons f167 .nil
theorem tk144:tb144 167=some T167.sp:=rfl
section
attribute [local go_sem] tk144 Tryz.results144
theorem f144:FnFact Tryz.prog 144 T144.sp:=by
 refine valid_m ty_ok tb144_ok Tryz.func144 rfl Tryz.ntmps144 fun ⟨a0,a1⟩ r hr=>⟨nL rfl,fun stop S=> ?_⟩
 replace hr:r144 a0 a1=some r:=hr
 unfold r144 at hr
 refine S.gx [] ?_
 exact D0 hr
end
def r143 (x0 x3 x1 x2:Int):Option (Int):=
 (r144 (IntKind.i64.wrap (x0*x2)) x1).bind fun v1=>
  some v1
def T143:=qT8 qu3 false r143
attribute [go_sem] T143
def tb143:Fns:=lk [(144,T144.sp)]
theorem tb143_ok:FnsOk Tryz.prog tb143:= .cons f144 .nil
theorem tk143:tb143 144=some T144.sp:=rfl
section
attribute [local go_sem] tk143 Tryz.results143
theorem f143:FnFact Tryz.prog 143 T143.sp:=by
 refine valid_m ty_ok tb143_ok Tryz.func143 rfl Tryz.ntmps143 fun ⟨x0,x3,x1,x2⟩ r hr=>⟨nL rfl,fun stop S=> ?_⟩
 replace hr:r143 x0 x3 x1 x2=some r:=hr
 unfold r143 at hr
 refine S.gx [] ?_
 exact D0 hr
end
def b142_1 (a0:L_II) (x0 x1:Int):Bd (Int×Int) (Int×Bool):=fun s1=>
 if (decide (s1.1<s1.2))=true then
  if 0≤IntKind.i64.wrap ((IntKind.u64.wrap (IntKind.i64.wrap (s1.1+s1.2))) / 2 ^ 1)∧IntKind.i64.wrap ((IntKind.u64.wrap (IntKind.i64.wrap (s1.1+s1.2))) / 2 ^ 1)<(a0.length:Int) then
   bindC (r143 ((a0.getD (IntKind.i64.wrap ((IntKind.u64.wrap (IntKind.i64.wrap (s1.1+s1.2))) / 2 ^ 1)).toNat default).1) ((a0.getD (IntKind.i64.wrap ((IntKind.u64.wrap (IntKind.i64.wrap (s1.1+s1.2))) / 2 ^ 1)).toNat default).2) x0 x1) fun v1=>
    if (decide (v1<0))=true then
     .next (IntKind.i64.wrap ((IntKind.i64.wrap ((IntKind.u64.wrap (IntKind.i64.wrap (s1.1+s1.2))) / 2 ^ 1))+1),s1.2)
     else .next (s1.1,IntKind.i64.wrap ((IntKind.u64.wrap (IntKind.i64.wrap (s1.1+s1.2))) / 2 ^ 1))
   else .out none
  else .out (if (decide (s1.1<(a0.length:Int)))=true→0≤s1.1∧s1.1<(a0.length:Int) then
   if (decide (s1.1<(a0.length:Int)))=true→(r143 ((a0.getD s1.1.toNat default).1) ((a0.getD s1.1.toNat default).2) x0 x1).isSome=true then
    some (s1.1,(decide (s1.1<(a0.length:Int))) && (((r143 ((a0.getD s1.1.toNat default).1) ((a0.getD s1.1.toNat default).2) x0 x1).getD default) == 0))
    else none
   else none)
def r142 (a0:L_II) (x0 x1:Int):Option (Int×Bool):=
 iterC (b142_1 a0 x0 x1) 1000000000 (0,(a0.length:Int))
def T142:=qT9 qu6 false r142
attribute [go_sem] T142
def tb142:Fns:=lk [(143,T143.sp)]
theorem tb142_ok:FnsOk Tryz.prog tb142:= .cons f143 .nil
theorem tk142:tb142 143=some T143.sp:=rfl
section
attribute [local go_sem] tk142 Tryz.results142
theorem f142:FnFact Tryz.prog 142 T142.sp:=by
 refine valid_m ty_ok tb142_ok Tryz.func142 rfl Tryz.ntmps142 fun ⟨a0,x0,x1⟩ r hr=>⟨nL rfl,fun stop S=> ?_⟩
 replace hr:r142 a0 x0 x1=some r:=hr
 unfold r142 at hr
 refine S.gx [] ?_
 refine gr ?_
 refine S.sees [0,2,4,8,9,10] [(4,4)] [] ?_ (Stop.iter S (fun s1=>⟨[(0,.c (.d (encF 2 d_II a0))),(2,.c (.clo 143 [])),(4,.c (.ref 4 0)),(8,.c (.d (.int .i64 (a0.length:Int)))),(9,.c (.d (.int .i64 s1.1))),(10,.c (.d (.int .i64 s1.2)))],[(4,[.d (.int .i64 x0),.d (.int .i64 x1)])],[]⟩) (b142_1 a0 x0 x1) (fun q=>q=r) hr rfl ?_)
 ·exact lf
 ·intro s1 hr
  unfold b142_1 at hr
  refine S.gx [] ?_
  refine gr ?_
  refine iW1 hr (fun hc hr=>D1 (S.ss [0,2,4,8,9,10] [(4,4)] []) hr) fun hc hr=> ?_
  refine gr ?_
  have hr:=of_out0 hr
  obtain ⟨hg3,hr⟩:=of_guard0 hr
  obtain ⟨hg4,hr⟩:=of_guard0 hr
  repeat (first | refine gG hg3 ?_ | refine gG hg4 ?_ | refine gA ?_ | refine gB ?_)
  exact D0 hr
end
def r113 (a0:L_II) (x1 x0:Int):Option (Int×Int):=
 (r142 a0 x1 x0).bind fun v1=>
  if ((a0.length:Int) == 0)=true then
   some (0,1)
   else if (v1.1 == 0)=true then
    if 0≤0∧0<(a0.length:Int) then
     some ((a0.getD 0 default).2,1)
     else none
    else if (v1.1 == (a0.length:Int))=true then
     if 0≤IntKind.i64.wrap (v1.1 - 1)∧IntKind.i64.wrap (v1.1 - 1)<(a0.length:Int) then
      some ((a0.getD (IntKind.i64.wrap (v1.1 - 1)).toNat default).2,1)
      else none
     else if 0≤IntKind.i64.wrap (v1.1 - 1)∧IntKind.i64.wrap (v1.1 - 1)<(a0.length:Int) then
      if 0≤v1.1∧v1.1<(a0.length:Int) then
       some (IntKind.i64.wrap ((IntKind.i64.wrap (((a0.getD (IntKind.i64.wrap (v1.1 - 1)).toNat default).2)*(IntKind.i64.wrap ((IntKind.i64.wrap (((a0.getD v1.1.toNat default).1) - ((a0.getD (IntKind.i64.wrap (v1.1 - 1)).toNat default).1)))*x0))))+(IntKind.i64.wrap ((IntKind.i64.wrap (((a0.getD v1.1.toNat default).2) - ((a0.getD (IntKind.i64.wrap (v1.1 - 1)).toNat default).2)))*(IntKind.i64.wrap (x1 - (IntKind.i64.wrap (((a0.getD (IntKind.i64.wrap (v1.1 - 1)).toNat default).1)*x0))))))),IntKind.i64.wrap ((IntKind.i64.wrap (((a0.getD v1.1.toNat default).1) - ((a0.getD (IntKind.i64.wrap (v1.1 - 1)).toNat default).1)))*x0))
       else none
      else none
def T113:=qT10 qu7 false r113
attribute [go_sem] T113
def tb113:Fns:=lk [(142,T142.sp)]
theorem tb113_ok:FnsOk Tryz.prog tb113:= .cons f142 .nil
theorem tk113:tb113 142=some T142.sp:=rfl
section
attribute [local go_sem] tk113 Tryz.results113
theorem f113:FnFact Tryz.prog 113 T113.sp:=by
 refine valid_m ty_ok tb113_ok Tryz.func113 rfl Tryz.ntmps113 fun ⟨a0,x1,x0⟩ r hr=>⟨nL rfl,fun stop S=> ?_⟩
 replace hr:r113 a0 x1 x0=some r:=hr
 unfold r113 at hr
 refine S.gx [9] ?_
 obtain ⟨v1,hv1,hr⟩:=of_bind0 hr
 refine gb hv1 ?_
 refine iW hr (fun hc hr=>D0 hr) fun hc hr=> ?_
 refine gr ?_
 refine iW hr (fun hc hr=>D0 hr) fun hc hr=> ?_
 refine gr ?_
 refine iW hr (fun hc hr=>D0 hr) fun hc hr=> ?_
 obtain ⟨hg4,hr⟩:=of_guard0 hr
 obtain ⟨hg5,hr⟩:=of_guard0 hr
 refine gr ?_
 refine S.prune [3,4,7,8] ?_
 refine S.gx [] ?_
 exact D0 hr
end
def b141_2 (v10 v11 v12:L_II):Bd Int Int:=fun s2=>
 if (decide (s2<(v12.length:Int)))=true then
  if 0≤s2∧s2<(v12.length:Int) then
   bindC (r113 v10 ((v12.getD s2.toNat default).1) 1) fun v13=>
    bindC (r113 v11 ((v12.getD s2.toNat default).1) 1) fun v14=>
     if (decide ((IntKind.i64.wrap (v13.1*v14.2))<(IntKind.i64.wrap (v14.1*v13.2))))=true then
      .out (some 13)
      else .next (IntKind.i64.wrap (s2+1))
   else .out none
  else .out (some 0)
def b141_1 (a0 a1:L_II):Bd Int Int:=fun s1=>
 if (decide (s1<(a0.length:Int)))=true then
  if 0≤s1∧s1<(a0.length:Int) then
   bindC (r165 ((a0.getD s1.toNat default).1)) fun v1=>
    if v1=true→(r110 ((a0.getD s1.toNat default).2) 0 1000).isSome=true then
     bindC (r78 (v1 && ((r110 ((a0.getD s1.toNat default).2) 0 1000).getD default)) 2) fun v2=>
      if ((v2 == 0) && (decide (s1>0)))=true then
       if 0≤IntKind.i64.wrap (s1 - 1)∧IntKind.i64.wrap (s1 - 1)<(a0.length:Int) then
        if 0≤IntKind.i64.wrap (s1 - 1)∧IntKind.i64.wrap (s1 - 1)<(a0.length:Int) then
         bindC (r78 ((decide ((IntKind.i64.wrap (((a0.getD s1.toNat default).1) - ((a0.getD (IntKind.i64.wrap (s1 - 1)).toNat default).1)))>0)) && (decide ((IntKind.i64.wrap (((a0.getD s1.toNat default).2) - ((a0.getD (IntKind.i64.wrap (s1 - 1)).toNat default).2)))≥0))) 9) fun v3=>
          bindC (r78 (decide ((IntKind.i64.wrap (2*(IntKind.i64.wrap (((a0.getD s1.toNat default).2) - ((a0.getD (IntKind.i64.wrap (s1 - 1)).toNat default).2)))))≤(IntKind.i64.wrap (((a0.getD s1.toNat default).1) - ((a0.getD (IntKind.i64.wrap (s1 - 1)).toNat default).1))))) 22) fun v4=>
           bindC (r77 [v3,v4]) fun v5=>
            if (v5 != 0)=true then
             .out (some v5)
             else .next (IntKind.i64.wrap (s1+1))
         else .out none
        else .out none
       else if (v2 != 0)=true then
        .out (some v2)
        else .next (IntKind.i64.wrap (s1+1))
     else .out none
   else .out none
  else .out ((r108 a0).bind fun v10=>
   (r108 a1).bind fun v11=>
    (r166 [v10,v11]).bind fun v12=>
     iterC (b141_2 v10 v11 v12) 1000000000 0)
def r141 (a0 a1:L_II):Option (Int):=
 if (decide ((a0.length:Int)>6))=true then
  some 8
  else iterC (b141_1 a0 a1) 1000000000 0
def T141:=qT11 qu3 false r141
attribute [go_sem] T141
def tb141:Fns:=lk [(77,T77.sp),(78,T78.sp),(108,T108.sp),(110,T110.sp),(113,T113.sp),(165,T165.sp),(166,T166.sp)]
theorem tb141_ok:FnsOk Tryz.prog tb141:= .cons f77 (.cons f78 (.cons f108 (.cons f110 (.cons f113 (.cons f165 (.cons f166 .nil))))))
theorem tk141:tb141 77=some T77.sp∧tb141 78=some T78.sp∧tb141 108=some T108.sp∧tb141 110=some T110.sp∧tb141 113=some T113.sp∧tb141 165=some T165.sp∧tb141 166=some T166.sp:=⟨rfl,rfl,rfl,rfl,rfl,rfl,rfl⟩
section
attribute [local go_sem] tk141 Tryz.results141
theorem f141:FnFact Tryz.prog 141 T141.sp:=by
 refine valid_m ty_ok tb141_ok Tryz.func141 rfl Tryz.ntmps141 fun ⟨a0,a1⟩ r hr=>⟨nL rfl,fun stop S=> ?_⟩
 replace hr:r141 a0 a1=some r:=hr
 unfold r141 at hr
 refine S.gx [9,20] ?_
 refine gr ?_
 refine iW hr (fun hc hr=>D0 hr) fun hc hr=> ?_
 refine gr ?_
 refine S.sees [0,1,20,21,22] [] [] ?_ (Stop.iter S (fun s1=>⟨[(0,.c (.d (encF 2 d_II a0))),(1,.c (.d (encF 2 d_II a1))),(20,.c (.d (encF 2 d_II a0))),(21,.c (.d (.int .i64 (a0.length:Int)))),(22,.c (.d (.int .i64 s1)))],[],[]⟩) (b141_1 a0 a1) (fun q=>q=r) hr rfl ?_)
 ·exact lf
 ·intro s1 hr
  unfold b141_1 at hr
  refine S.gx [9,20] ?_
  refine gr ?_
  refine iW1 hr (fun hc hr=> ?_) fun hc hr=> ?_
  ·obtain ⟨hg8,hr⟩:=of_guard1 hr
   obtain ⟨v1,hv1,hr⟩:=of_bind1 hr
   obtain ⟨hg9,hr⟩:=of_guard1 hr
   obtain ⟨v2,hv2,hr⟩:=of_bind1 hr
   try simp only [hv1,hv2,Option.getD_some,Option.isSome_some,true_and,and_assoc]
   repeat (first | refine gG hg9 ?_ | refine gA ?_ | refine gB ?_)
   refine iW1 hr (fun hc hr=> ?_) fun hc hr=>D1 (S.ss [0,1,20,21,22] [] []) hr
   obtain ⟨hg6,hr⟩:=of_guard1 hr
   obtain ⟨hg7,hr⟩:=of_guard1 hr
   refine gr ?_
   refine S.prune [0,1,8,9,20,21,22] ?_
   refine S.gx [20] ?_
   obtain ⟨v3,hv3,hr⟩:=of_bind1 hr
   obtain ⟨v4,hv4,hr⟩:=of_bind1 hr
   obtain ⟨v5,hv5,hr⟩:=of_bind1 hr
   try simp only [hv3,hv4,hv5,Option.getD_some,Option.isSome_some,true_and,and_assoc]
   repeat (first | refine gA ?_ | refine gB ?_)
   exact D1 (S.ss [0,1,20,21,22] [] []) hr
  ·refine gr ?_
   have hr:=of_out0 hr
   obtain ⟨v10,hv10,hr⟩:=of_bind0 hr
   obtain ⟨v11,hv11,hr⟩:=of_bind0 hr
   obtain ⟨v12,hv12,hr⟩:=of_bind0 hr
   refine gb hv10 ?_
   refine gb hv11 ?_
   refine gb hv12 ?_
   refine S.sees [10,11,85,86,87] [] [(79,79),(81,81),(85,85)] ?_ (Stop.iter S (fun s2=>⟨[(10,.c (.own 79)),(11,.c (.own 81)),(85,.c (.own 85)),(86,.c (.d (.int .i64 (v12.length:Int)))),(87,.c (.d (.int .i64 s2)))],[],[(79,.shared (encF 2 d_II v10)),(81,.shared (encF 2 d_II v11)),(85,.owned (encF 2 d_II v12))]⟩) (b141_2 v10 v11 v12) (fun q=>q=r) hr rfl ?_)
   ·exact lf
   ·intro s2 hr
    unfold b141_2 at hr
    refine S.gx [9,20] ?_
    refine gr ?_
    refine iW1 hr (fun hc hr=> ?_) fun hc hr=>D0 hr
    obtain ⟨hg15,hr⟩:=of_guard1 hr
    obtain ⟨v13,hv13,hr⟩:=of_bind1 hr
    obtain ⟨v14,hv14,hr⟩:=of_bind1 hr
    refine gb hv13 ?_
    refine gb hv14 ?_
    refine iW1 hr (fun hc hr=> ?_) fun hc hr=>D1 (S.ss [10,11,85,86,87] [] [(79,79),(81,81),(85,85)]) hr
    refine gr ?_
    refine S.prune [] ?_
    refine S.gx [9] ?_
    exact D0 hr
end
def b106_1 (x0:L_LIIE):Bd (L_II×Int) (Int×Int):=fun s1=>
 if (decide (s1.2<(x0.length:Int)))=true then
  if 0≤s1.2∧s1.2<(x0.length:Int) then
   bindC (r141 (x0.getD s1.2.toNat default) s1.1) fun v3=>
    if (v3 != 0)=true then
     .out (some (s1.2,v3))
     else .next ((x0.getD s1.2.toNat default),IntKind.i64.wrap (s1.2+1))
   else .out none
  else .out (some (0,0))
def r106 (x2 x1:Int) (x3:L_II) (x0:L_LIIE):Option (Int×Int):=
 (r110 x2 1 12).bind fun v1=>
  if (!(!v1))=true→(r110 x1 0 500).isSome=true then
   if ((!v1) || (!((r110 x1 0 500).getD default)))=true then
    some (0,2)
    else (r140 x3).bind fun v2=>
     if (v2.2 != 0)=true then
      some (v2.1,v2.2)
      else if (decide ((x0.length:Int)>4))=true then
       some (0,8)
       else iterC (b106_1 x0) 1000000000 ([],0)
   else none
def T106:=qT12 qu4 false r106
attribute [go_sem] T106
def tb106:Fns:=lk [(110,T110.sp),(140,T140.sp),(141,T141.sp)]
theorem tb106_ok:FnsOk Tryz.prog tb106:= .cons f110 (.cons f140 (.cons f141 .nil))
theorem tk106:tb106 110=some T110.sp∧tb106 140=some T140.sp∧tb106 141=some T141.sp:=⟨rfl,rfl,rfl⟩
section
attribute [local go_sem] tk106 Tryz.results106
theorem f106:FnFact Tryz.prog 106 T106.sp:=by
 refine valid_m ty_ok tb106_ok Tryz.func106 rfl Tryz.ntmps106 fun ⟨x2,x1,x3,x0⟩ r hr=>⟨nL rfl,fun stop S=> ?_⟩
 replace hr:r106 x2 x1 x3 x0=some r:=hr
 unfold r106 at hr
 refine S.gx [] ?_
 obtain ⟨v1,hv1,hr⟩:=of_bind0 hr
 obtain ⟨hg5,hr⟩:=of_guard0 hr
 try simp only [hv1,oG,oI,true_and,and_assoc]
 repeat (first | refine gG hg5 ?_ | refine gA ?_ | refine gB ?_)
 refine iW hr (fun hc hr=>D0 hr) fun hc hr=> ?_
 obtain ⟨v2,hv2,hr⟩:=of_bind0 hr
 refine gb hv2 ?_
 refine iW hr (fun hc hr=>D0 hr) fun hc hr=> ?_
 refine gr ?_
 refine iW hr (fun hc hr=>D0 hr) fun hc hr=> ?_
 refine gr ?_
 refine S.sees [6,35,36,37] [] [] ?_ (Stop.iter S (fun s1=>⟨[(6,.c (.d (encF 2 d_II s1.1))),(35,.c (.d (encF 1 d_LIIE x0))),(36,.c (.d (.int .i64 (x0.length:Int)))),(37,.c (.d (.int .i64 s1.2)))],[],[]⟩) (b106_1 x0) (fun q=>q=r) hr rfl ?_)
 ·exact lf
 ·intro s1 hr
  unfold b106_1 at hr
  refine S.gx [] ?_
  exact D1 (S.ss [6,35,36,37] [] []) hr
end
end Go.Proofs.YtlnlpncchgimgaaGreatDoor

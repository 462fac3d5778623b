/- Contracts of functions, written by wip/dec. -/
import Derived.Test.YthldpejmofhaoaaGreatDoorF00
import Derived.Test.YthldpejmofhaoaaGreatDoorF02
set_option linter.unusedVariables false
set_option linter.unusedSimpArgs false
set_option linter.constructorNameAsVariable false
set_option maxHeartbeats 4000000
set_option maxRecDepth 20000
namespace Go.Proofs.YthldpejmofhaoaaGreatDoor
open Go.Abs
section
variable {β:Type} [Inhabited β] (u:β→List RV) (al:Bool)
abbrev qF16 (β:Type):=L_LIIE→β
def qw16 (a0:L_LIIE):List Arg:=[.c (encF 1 d_LIIE a0)]
def qd16 (a:List Arg):=decF g_LIIE (aCell a 0 0)
def qp16 {β:Type} (f:qF16 β) (c0:D):=f (decF g_LIIE c0)
abbrev qt16 (c0:D):List Arg:=[.c c0]
def qT16 (r:qF16 (Option β)):=mkT (u1 qw16) qd16 (u1 r) u al
theorem qP16 (r:qF16 (Option β)) (c0:D):PT (qT16 u al r).sp u (qt16 c0) (qp16 qw16 c0) (qp16 r c0):=⟨rfl,rfl⟩
theorem qa16 (r:qF16 (Option β)):(qT16 u al r).sp.alias=al:=rfl
attribute [go_sem] qw16 qp16 qt16 qP16 qa16
abbrev qF18 (β:Type):=L_II→Int→Int→β
def qw18 (a0:L_II) (a1 a2:Int):List Arg:=[.c (encF 2 d_II a0),.agg [.int .i64 a1,.int .i64 a2],.clo 241 []]
def qd18 (a:List Arg):=(decF g_II (aCell a 0 0),dInt (aCell a 1 0),dInt (aCell a 1 1))
def qp18 {β:Type} (f:qF18 β) (c0 c1 c2:D):=f (decF g_II c0) (dInt c1) (dInt c2)
abbrev qt18 (c0 c1 c2:D):List Arg:=[.c c0,.agg [c1,c2],.clo 241 []]
def qT18 (r:qF18 (Option β)):=mkT (u3 qw18) qd18 (u3 r) u al
theorem qP18 (r:qF18 (Option β)) (c0 c1 c2:D):PT (qT18 u al r).sp u (qt18 c0 c1 c2) (qp18 qw18 c0 c1 c2) (qp18 r c0 c1 c2):=⟨rfl,rfl⟩
theorem qa18 (r:qF18 (Option β)):(qT18 u al r).sp.alias=al:=rfl
attribute [go_sem] qw18 qp18 qt18 qP18 qa18
abbrev qF19 (β:Type):=L_II→Int→Int→β
def qw19 (a0:L_II) (a1 a2:Int):List Arg:=[.c (encF 2 d_II a0),.agg [.int .i64 a1,.int .i64 a2]]
def qd19 (a:List Arg):=(decF g_II (aCell a 0 0),dInt (aCell a 1 0),dInt (aCell a 1 1))
def qp19 {β:Type} (f:qF19 β) (c0 c1 c2:D):=f (decF g_II c0) (dInt c1) (dInt c2)
abbrev qt19 (c0 c1 c2:D):List Arg:=[.c c0,.agg [c1,c2]]
def qT19 (r:qF19 (Option β)):=mkT (u3 qw19) qd19 (u3 r) u al
theorem qP19 (r:qF19 (Option β)) (c0 c1 c2:D):PT (qT19 u al r).sp u (qt19 c0 c1 c2) (qp19 qw19 c0 c1 c2) (qp19 r c0 c1 c2):=⟨rfl,rfl⟩
theorem qa19 (r:qF19 (Option β)):(qT19 u al r).sp.alias=al:=rfl
attribute [go_sem] qw19 qp19 qt19 qP19 qa19
abbrev qF24 (β:Type):=L_I→Int→Int→L_II→L_LIIE→L_II→L_LIIE→β
def qw24 (a0:L_I) (a1 a2:Int) (a3:L_II) (a4:L_LIIE) (a5:L_II) (a6:L_LIIE):List Arg:=[.c (encF 1 d_I a0),.clo 230 [[.int .i64 a1,.int .i64 a2,encF 2 d_II a3,encF 1 d_LIIE a4,encF 2 d_II a5,encF 1 d_LIIE a6]]]
def qd24 (a:List Arg):=(decF g_I (aCell a 0 0),dInt (aCell a 1 0),dInt (aCell a 1 1),decF g_II (aCell a 1 2),decF g_LIIE (aCell a 1 3),decF g_II (aCell a 1 4),decF g_LIIE (aCell a 1 5))
def qp24 {β:Type} (f:qF24 β) (c0 c1 c2 c3 c4 c5 c6:D):=f (decF g_I c0) (dInt c1) (dInt c2) (decF g_II c3) (decF g_LIIE c4) (decF g_II c5) (decF g_LIIE c6)
abbrev qt24 (c0 c1 c2 c3 c4 c5 c6:D):List Arg:=[.c c0,.clo 230 [[c1,c2,c3,c4,c5,c6]]]
def qT24 (r:qF24 (Option β)):=mkT (u7 qw24) qd24 (u7 r) u al
theorem qP24 (r:qF24 (Option β)) (c0 c1 c2 c3 c4 c5 c6:D):PT (qT24 u al r).sp u (qt24 c0 c1 c2 c3 c4 c5 c6) (qp24 qw24 c0 c1 c2 c3 c4 c5 c6) (qp24 r c0 c1 c2 c3 c4 c5 c6):=⟨rfl,rfl⟩
theorem qa24 (r:qF24 (Option β)):(qT24 u al r).sp.alias=al:=rfl
attribute [go_sem] qw24 qp24 qt24 qP24 qa24
abbrev qF25 (β:Type):=Int→Int→L_II→L_LIIE→L_II→L_LIIE→L_I→β
def qw25 (a0 a1:Int) (a2:L_II) (a3:L_LIIE) (a4:L_II) (a5:L_LIIE) (a6:L_I):List Arg:=[.agg [.int .i64 a0,.int .i64 a1,encF 2 d_II a2,encF 1 d_LIIE a3,encF 2 d_II a4,encF 1 d_LIIE a5],.c (encF 1 d_I a6)]
def qd25 (a:List Arg):=(dInt (aCell a 0 0),dInt (aCell a 0 1),decF g_II (aCell a 0 2),decF g_LIIE (aCell a 0 3),decF g_II (aCell a 0 4),decF g_LIIE (aCell a 0 5),decF g_I (aCell a 1 0))
def qp25 {β:Type} (f:qF25 β) (c0 c1 c2 c3 c4 c5 c6:D):=f (dInt c0) (dInt c1) (decF g_II c2) (decF g_LIIE c3) (decF g_II c4) (decF g_LIIE c5) (decF g_I c6)
abbrev qt25 (c0 c1 c2 c3 c4 c5 c6:D):List Arg:=[.agg [c0,c1,c2,c3,c4,c5],.c c6]
def qT25 (r:qF25 (Option β)):=mkT (u7 qw25) qd25 (u7 r) u al
theorem qP25 (r:qF25 (Option β)) (c0 c1 c2 c3 c4 c5 c6:D):PT (qT25 u al r).sp u (qt25 c0 c1 c2 c3 c4 c5 c6) (qp25 qw25 c0 c1 c2 c3 c4 c5 c6) (qp25 r c0 c1 c2 c3 c4 c5 c6):=⟨rfl,rfl⟩
theorem qa25 (r:qF25 (Option β)):(qT25 u al r).sp.alias=al:=rfl
attribute [go_sem] qw25 qp25 qt25 qP25 qa25
def qu15 (v:L_II):List RV:=[.c (.own (encF 2 d_II v))]
attribute [go_sem] qu15
def qu16 (v:Int×Bool):List RV:=[.c (.d (.int .i64 v.1)),.c (.d (.bool v.2))]
attribute [go_sem] qu16
end
def b159_1 (a0:L_II):Bd Int (Int×Int):=fun s1=>
 if (decide (s1<(a0.length:Int)))=true then
  if 0≤s1∧s1<(a0.length:Int) then
   bindC (r79 ((a0.getD s1.toNat default).1) 0 1000000) fun v4=>
    if v4=true→(r169 ((a0.getD s1.toNat default).2)).isSome=true then
     bindC (r83 (v4 && ((r169 ((a0.getD s1.toNat default).2)).getD default)) 2) fun v5=>
      if ((v5 == 0) && (decide (s1>0)))=true then
       if 0≤IntKind.i64.wrap (s1 - 1)∧IntKind.i64.wrap (s1 - 1)<(a0.length:Int) then
        if 0≤IntKind.i64.wrap (s1 - 1)∧IntKind.i64.wrap (s1 - 1)<(a0.length:Int) then
         bindC (r83 ((decide ((IntKind.i64.wrap (((a0.getD s1.toNat default).1) - ((a0.getD (IntKind.i64.wrap (s1 - 1)).toNat default).1)))>0)) && (decide ((IntKind.i64.wrap (((a0.getD s1.toNat default).2) - ((a0.getD (IntKind.i64.wrap (s1 - 1)).toNat default).2)))>0))) 9) fun v6=>
          bindC (r83 (decide ((IntKind.i64.wrap (((a0.getD s1.toNat default).2) - ((a0.getD (IntKind.i64.wrap (s1 - 1)).toNat default).2)))≤(IntKind.i64.wrap (((a0.getD s1.toNat default).1) - ((a0.getD (IntKind.i64.wrap (s1 - 1)).toNat default).1))))) 22) fun v7=>
           bindC (r80 [v6,v7]) fun v8=>
            if (v8 != 0)=true then
             .out (some (s1,v8))
             else .next (IntKind.i64.wrap (s1+1))
         else .out none
        else .out none
       else if (v5 != 0)=true then
        .out (some (s1,v5))
        else .next (IntKind.i64.wrap (s1+1))
     else .out none
   else .out none
  else .out (some (0,0))
def r159 (a0:L_II):Option (Int×Int):=
 (r83 (decide ((a0.length:Int)≥2)) 10).bind fun v1=>
  (r83 (decide ((a0.length:Int)≤8)) 8).bind fun v2=>
   (r80 [v1,v2]).bind fun v3=>
    if (v3 != 0)=true then
     some (0,v3)
     else iterC (b159_1 a0) 1000000000 0
def T159:=qT15 qu4 false r159
attribute [go_sem] T159
def tb159:Fns:=lk [(79,T79.sp),(80,T80.sp),(83,T83.sp),(169,T169.sp)]
theorem tb159_ok:FnsOk Tryz.prog tb159:= .cons f79 (.cons f80 (.cons f83 (.cons f169 .nil)))
theorem tk159:tb159 79=some T79.sp∧tb159 80=some T80.sp∧tb159 83=some T83.sp∧tb159 169=some T169.sp:=⟨rfl,rfl,rfl,rfl⟩
section
attribute [local go_sem] tk159 Tryz.results159
theorem f159:FnFact Tryz.prog 159 T159.sp:=by
 refine valid_m ty_ok tb159_ok Tryz.func159 rfl Tryz.ntmps159 fun a0 r hr=>⟨nL rfl,fun stop S=> ?_⟩
 replace hr:r159 a0=some r:=hr
 unfold r159 at hr
 refine S.gx [10] ?_
 obtain ⟨v1,hv1,hr⟩:=of_bind0 hr
 obtain ⟨v2,hv2,hr⟩:=of_bind0 hr
 obtain ⟨v3,hv3,hr⟩:=of_bind0 hr
 refine gb hv1 ?_
 refine gb hv2 ?_
 refine gb hv3 ?_
 refine iW hr (fun hc hr=>D0 hr) fun hc hr=> ?_
 refine gr ?_
 refine S.sees [0,23,24,25] [] [] ?_ (Stop.iter S (fun s1=>⟨[(0,.c (.d (encF 2 d_II a0))),(23,.c (.d (encF 2 d_II a0))),(24,.c (.d (.int .i64 (a0.length:Int)))),(25,.c (.d (.int .i64 s1)))],[],[]⟩) (b159_1 a0) (fun q=>q=r) hr rfl ?_)
 ·exact lf
 ·intro s1 hr
  unfold b159_1 at hr
  refine S.gx [10] ?_
  refine gr ?_
  refine iW1 hr (fun hc hr=> ?_) fun hc hr=>D0 hr
  obtain ⟨hg11,hr⟩:=of_guard1 hr
  obtain ⟨v4,hv4,hr⟩:=of_bind1 hr
  obtain ⟨hg12,hr⟩:=of_guard1 hr
  obtain ⟨v5,hv5,hr⟩:=of_bind1 hr
  try simp only [hv4,hv5,Option.getD_some,Option.isSome_some,true_and,and_assoc]
  repeat (first | refine gG hg12 ?_ | refine gA ?_ | refine gB ?_)
  refine iW1 hr (fun hc hr=> ?_) fun hc hr=>D1 (S.ss [0,23,24,25] [] []) hr
  obtain ⟨hg9,hr⟩:=of_guard1 hr
  obtain ⟨hg10,hr⟩:=of_guard1 hr
  refine gr ?_
  refine S.prune [0,5,8,9,23,24,25] ?_
  refine S.gx [] ?_
  obtain ⟨v6,hv6,hr⟩:=of_bind1 hr
  obtain ⟨v7,hv7,hr⟩:=of_bind1 hr
  obtain ⟨v8,hv8,hr⟩:=of_bind1 hr
  try simp only [hv6,hv7,hv8,Option.getD_some,Option.isSome_some,true_and,and_assoc]
  repeat (first | refine gA ?_ | refine gB ?_)
  exact D1 (S.ss [0,23,24,25] [] []) hr
end
def b76_1 (a0:L_II):Bd ((List (Int×Int))×Int) L_II:=fun s1=>
 if (decide (s1.2<(a0.length:Int)))=true then
  if 0≤s1.2∧s1.2<(a0.length:Int) then
   if (s1.1.length+1)*16≤140737488355328∧s1.1.length+1≤9223372036854775807 then
    .next (s1.1++[((a0.getD s1.2.toNat default).1,(a0.getD s1.2.toNat default).2)],IntKind.i64.wrap (s1.2+1))
    else .out none
   else .out none
  else .out (some s1.1)
def r76 (a0:L_II):Option (L_II):=
 iterC (b76_1 a0) 1000000000 ([],0)
def T76:=qT15 qu15 false r76
attribute [go_sem] T76
def tb76:Fns:=lk []
theorem tb76_ok:FnsOk Tryz.prog tb76:=FnsOk.nil
section
attribute [local go_sem] Tryz.results76
theorem f76:FnFact Tryz.prog 76 T76.sp:=by
 refine valid_m ty_ok tb76_ok Tryz.func76 rfl Tryz.ntmps76 fun a0 r hr=>⟨nL rfl,fun stop S=> ?_⟩
 replace hr:r76 a0=some r:=hr
 unfold r76 at hr
 refine S.gx [] ?_
 refine gr ?_
 refine S.own0 3 1000300 2 rfl rfl ?_
 refine S.sees [3,6,7,8] [] [(1000300,1000300)] ?_ (Stop.iter S (fun s1=>⟨[(3,.c (.own 1000300)),(6,.c (.d (encF 2 d_II a0))),(7,.c (.d (.int .i64 (a0.length:Int)))),(8,.c (.d (.int .i64 s1.2)))],[],[(1000300,.owned (encF 2 d_II s1.1))]⟩) (b76_1 a0) (fun q=>q=r) hr rfl ?_)
 ·exact lf
 ·intro s1 hr
  unfold b76_1 at hr
  refine S.gx [] ?_
  exact D1 (S.ss [3,6,7,8] [] [(19,1000300)]) hr
end
theorem grow270w (w:World) (m:Nat) (h0:0<m) (h1:m≤1000000) :
 Calls Tryz.prog 270 #[.slice none 0 0,.int .i64 (m:Int)] w fun e w'=>∃ v,e= .returned v∧∃ cap c,v= .slice (some ⟨w.heap.size,0,none⟩) 0 cap∧w'=w.drew.alloc (.cells c 150)∧c.size=cap*2:=by
 have hbytes:Tryz.t150.bytes=16:=rfl
 have hns:Builtin.nextslicecap m 0=m:=nextslicecap_zero h0
 go_enter Tryz.func270,Tryz.ntmps270
 go_wp2
 all_goals try (exfalso; simp only [hbytes,hns] at *; omega)
 all_goals go_ret
 refine ⟨_,rfl,_,rfl,_,rfl,?_⟩
 have hcap:=grownCap_ge w m 0 150
 simp only [grownCap] at hcap
 simp [Builtin.zeroCells]
 omega
theorem grow270z (w:World) :
 Calls Tryz.prog 270 #[.slice none 0 0,.int .i64 0] w fun e w'=>∃ v,e= .returned v∧v= .slice none 0 0∧w'=w:=by
 go_enter Tryz.func270,Tryz.ntmps270
 go_wp2
 all_goals go_ret
 exact ⟨_,rfl,rfl,rfl⟩
theorem grow270 (n:Int) (h0:0≤n) (h1:n≤1000000) (w:World):Calls Tryz.prog 270 #[.slice none 0 0,.int .i64 n] w fun e w'=>∃ v,e= .returned v∧GrowPost 2 w w' v:=by
 obtain ⟨m,rfl⟩:∃ m:Nat,n=m:=⟨n.toNat,by omega⟩
 rcases Nat.eq_zero_or_pos m with rfl | hm
 ·refine (grow270z w).mono ?_
  rintro e w' ⟨v,rfl,rfl,rfl⟩
  exact ⟨_,rfl,.refl _,Nat.le_refl _,fun _ _=>rfl,.inl rfl⟩
 ·refine (grow270w w m hm (by omega)).mono ?_
  rintro e w' ⟨v,rfl,cap,c,rfl,rfl,hc⟩
  have hh:(w.drew.alloc (.cells c 150)).heap=w.heap.push (.cells c 150 (0,0)):=rfl
  refine ⟨_,rfl,⟨rfl,rfl,rfl⟩,by rw [hh,Array.size_push]; exact Nat.le_succ _,fun B hB=> ?_,.inr ⟨_,cap,c,_,rfl,Nat.le_refl _,by rw [hh,Array.size_push]; exact Nat.lt_succ_self _,by rw [hh,Array.getElem?_push_size],hc⟩⟩
  rw [hh,Array.getElem?_push,if_neg (Nat.ne_of_lt hB)]
def b226_2 (a0:L_LIIE):Bd (Int×(List (Int×Int))) L_II:=fun s2=>
 if (decide (s2.1<(a0.length:Int)))=true then
  if 0≤s2.1∧s2.1<(a0.length:Int) then
   if (s2.2.length+(a0.getD s2.1.toNat default).length)*16≤140737488355328∧s2.2.length+(a0.getD s2.1.toNat default).length≤9223372036854775807 then
    .next (IntKind.i64.wrap (s2.1+1),s2.2++(a0.getD s2.1.toNat default))
    else .out none
   else .out none
  else .out (some s2.2)
def b226_1 (a0:L_LIIE):Bd (Int×Int) L_II:=fun s1=>
 if (decide (s1.2<(a0.length:Int)))=true then
  if 0≤s1.2∧s1.2<(a0.length:Int) then
   if (decide ((IntKind.i64.wrap (s1.1+((a0.getD s1.2.toNat default).length:Int)))<0))=true then
    .out none
    else .next (IntKind.i64.wrap (s1.1+((a0.getD s1.2.toNat default).length:Int)),IntKind.i64.wrap (s1.2+1))
   else .out none
  else .out (if 0≤s1.1∧s1.1≤1000000 then
   iterC (b226_2 a0) 1000000000 (0,([]:List (Int×Int)))
   else none)
def r226 (a0:L_LIIE):Option (L_II):=
 iterC (b226_1 a0) 1000000000 (0,0)
def T226:=qT16 qu15 false r226
attribute [go_sem] T226
def tb226:Fns:=lk []
theorem tb226_ok:FnsOk Tryz.prog tb226:=FnsOk.nil
section
attribute [local go_sem] Tryz.results226
theorem f226:FnFact Tryz.prog 226 T226.sp:=by
 refine valid_m ty_ok tb226_ok Tryz.func226 rfl Tryz.ntmps226 fun a0 r hr=>⟨nL rfl,fun stop S=> ?_⟩
 replace hr:r226 a0=some r:=hr
 unfold r226 at hr
 refine S.gx [9] ?_
 refine gr ?_
 refine S.sees [0,3,9,10,11] [] [] ?_ (Stop.iter S (fun s1=>⟨[(0,.c (.d (encF 1 d_LIIE a0))),(3,.c (.d (.int .i64 s1.1))),(9,.c (.d (encF 1 d_LIIE a0))),(10,.c (.d (.int .i64 (a0.length:Int)))),(11,.c (.d (.int .i64 s1.2)))],[],[]⟩) (b226_1 a0) (fun q=>q=r) hr rfl ?_)
 ·exact lf
 ·intro s1 hr
  unfold b226_1 at hr
  refine S.gx [9] ?_
  refine gr ?_
  refine iW1 hr (fun hc hr=> ?_) fun hc hr=> ?_
  ·obtain ⟨hg1,hr⟩:=of_guard1 hr
   refine gr ?_
   refine iW1 hr (fun hc hr=> ?_) fun hc hr=>D1 (S.ss [0,3,9,10,11] [] []) hr
   refine gr ?_
   first | cases hr | exact hr.elim
  ·refine gr ?_
   have hr:=of_out0 hr
   refine gr ?_
   obtain ⟨hg2,hr⟩:=of_guard0 hr
   refine gr ?_
   refine S.callGrow 1 23 24 3000024 2 rfl rfl rfl rfl (by decide) Tryz.func270 (by decide) rfl (grow270 _ hg2.1 hg2.2) ?_
   refine gs ?_
   refine gr ?_
   refine S.gx [9] ?_
   refine gr ?_
   refine gr ?_
   refine S.sees [6,25,26,27] [] [(3000024,3000024)] ?_ (Stop.iter S (fun s2=>⟨[(6,.c (.own 3000024)),(25,.c (.d (encF 1 d_LIIE a0))),(26,.c (.d (.int .i64 (a0.length:Int)))),(27,.c (.d (.int .i64 s2.1)))],[],[(3000024,.owned (encF 2 d_II s2.2))]⟩) (b226_2 a0) (fun q=>q=r) hr rfl ?_)
   ·exact lf
   ·intro s2 hr
    unfold b226_2 at hr
    refine S.gx [9] ?_
    exact D1 (S.ss [6,25,26,27] [] [(33,3000024)]) hr
end
def r285 (a0:Int):Option (Bool):=
 some (a0 != a0)
def T285:=qT4 qu2 false r285
attribute [go_sem] T285
def tb285:Fns:=lk []
theorem tb285_ok:FnsOk Tryz.prog tb285:=FnsOk.nil
section
attribute [local go_sem] Tryz.results285
theorem f285:FnFact Tryz.prog 285 T285.sp:=by
 refine valid_m ty_ok tb285_ok Tryz.func285 rfl Tryz.ntmps285 fun a0 r hr=>⟨nL rfl,fun stop S=> ?_⟩
 replace hr:r285 a0=some r:=hr
 unfold r285 at hr
 refine S.gx [] ?_
 exact D0 hr
end
def r242 (a0 a1:Int):Option (Int):=
 (r285 a0).bind fun v1=>
  (r285 a1).bind fun v2=>
   if v1=true then
    if v2=true then
     some 0
     else some (-1)
    else if v2=true then
     some 1
     else if (decide (a0<a1))=true then
      some (-1)
      else if (decide (a0>a1))=true then
       some 1
       else some 0
def T242:=qT17 qu3 false r242
attribute [go_sem] T242
def tb242:Fns:=lk [(285,T285.sp)]
theorem tb242_ok:FnsOk Tryz.prog tb242:= .cons f285 .nil
theorem tk242:tb242 285=some T285.sp:=rfl
section
attribute [local go_sem] tk242 Tryz.results242
theorem f242:FnFact Tryz.prog 242 T242.sp:=by
 refine valid_m ty_ok tb242_ok Tryz.func242 rfl Tryz.ntmps242 fun ⟨a0,a1⟩ r hr=>⟨nL rfl,fun stop S=> ?_⟩
 replace hr:r242 a0 a1=some r:=hr
 unfold r242 at hr
 refine S.gx [] ?_
 exact D0 hr
end
def r241 (x0 x3 x1 x2:Int):Option (Int):=
 (r242 (IntKind.i64.wrap (x0*x2)) x1).bind fun v1=>
  some v1
def T241:=qT8 qu3 false r241
attribute [go_sem] T241
def tb241:Fns:=lk [(242,T242.sp)]
theorem tb241_ok:FnsOk Tryz.prog tb241:= .cons f242 .nil
theorem tk241:tb241 242=some T242.sp:=rfl
section
attribute [local go_sem] tk241 Tryz.results241
theorem f241:FnFact Tryz.prog 241 T241.sp:=by
 refine valid_m ty_ok tb241_ok Tryz.func241 rfl Tryz.ntmps241 fun ⟨x0,x3,x1,x2⟩ r hr=>⟨nL rfl,fun stop S=> ?_⟩
 replace hr:r241 x0 x3 x1 x2=some r:=hr
 unfold r241 at hr
 refine S.gx [] ?_
 exact D0 hr
end
def b240_1 (a0:L_II) (x0 x1:Int):Bd (Int×Int) (Int×Bool):=fun s1=>
 if (decide (s1.1<s1.2))=true then
  if 0≤IntKind.i64.wrap ((IntKind.u64.wrap (IntKind.i64.wrap (s1.1+s1.2))) / 2 ^ 1)∧IntKind.i64.wrap ((IntKind.u64.wrap (IntKind.i64.wrap (s1.1+s1.2))) / 2 ^ 1)<(a0.length:Int) then
   bindC (r241 ((a0.getD (IntKind.i64.wrap ((IntKind.u64.wrap (IntKind.i64.wrap (s1.1+s1.2))) / 2 ^ 1)).toNat default).1) ((a0.getD (IntKind.i64.wrap ((IntKind.u64.wrap (IntKind.i64.wrap (s1.1+s1.2))) / 2 ^ 1)).toNat default).2) x0 x1) fun v1=>
    if (decide (v1<0))=true then
     .next (IntKind.i64.wrap ((IntKind.i64.wrap ((IntKind.u64.wrap (IntKind.i64.wrap (s1.1+s1.2))) / 2 ^ 1))+1),s1.2)
     else .next (s1.1,IntKind.i64.wrap ((IntKind.u64.wrap (IntKind.i64.wrap (s1.1+s1.2))) / 2 ^ 1))
   else .out none
  else .out (if (decide (s1.1<(a0.length:Int)))=true→0≤s1.1∧s1.1<(a0.length:Int) then
   if (decide (s1.1<(a0.length:Int)))=true→(r241 ((a0.getD s1.1.toNat default).1) ((a0.getD s1.1.toNat default).2) x0 x1).isSome=true then
    some (s1.1,(decide (s1.1<(a0.length:Int))) && (((r241 ((a0.getD s1.1.toNat default).1) ((a0.getD s1.1.toNat default).2) x0 x1).getD default) == 0))
    else none
   else none)
def r240 (a0:L_II) (x0 x1:Int):Option (Int×Bool):=
 iterC (b240_1 a0 x0 x1) 1000000000 (0,(a0.length:Int))
def T240:=qT18 qu16 false r240
attribute [go_sem] T240
def tb240:Fns:=lk [(241,T241.sp)]
theorem tb240_ok:FnsOk Tryz.prog tb240:= .cons f241 .nil
theorem tk240:tb240 241=some T241.sp:=rfl
section
attribute [local go_sem] tk240 Tryz.results240
theorem f240:FnFact Tryz.prog 240 T240.sp:=by
 refine valid_m ty_ok tb240_ok Tryz.func240 rfl Tryz.ntmps240 fun ⟨a0,x0,x1⟩ r hr=>⟨nL rfl,fun stop S=> ?_⟩
 replace hr:r240 a0 x0 x1=some r:=hr
 unfold r240 at hr
 refine S.gx [] ?_
 refine gr ?_
 refine S.sees [0,2,4,8,9,10] [(4,4)] [] ?_ (Stop.iter S (fun s1=>⟨[(0,.c (.d (encF 2 d_II a0))),(2,.c (.clo 241 [])),(4,.c (.ref 4 0)),(8,.c (.d (.int .i64 (a0.length:Int)))),(9,.c (.d (.int .i64 s1.1))),(10,.c (.d (.int .i64 s1.2)))],[(4,[.d (.int .i64 x0),.d (.int .i64 x1)])],[]⟩) (b240_1 a0 x0 x1) (fun q=>q=r) hr rfl ?_)
 ·exact lf
 ·intro s1 hr
  unfold b240_1 at hr
  refine S.gx [] ?_
  refine gr ?_
  refine iW1 hr (fun hc hr=>D1 (S.ss [0,2,4,8,9,10] [(4,4)] []) hr) fun hc hr=> ?_
  refine gr ?_
  have hr:=of_out0 hr
  obtain ⟨hg3,hr⟩:=of_guard0 hr
  obtain ⟨hg4,hr⟩:=of_guard0 hr
  repeat (first | refine gG hg3 ?_ | refine gG hg4 ?_ | refine gA ?_ | refine gB ?_)
  exact D0 hr
end
def r189 (a0:L_II) (x1 x0:Int):Option (Int×Int):=
 (r240 a0 x1 x0).bind fun v1=>
  if ((a0.length:Int) == 0)=true then
   some (0,1)
   else if (v1.1 == 0)=true then
    if 0≤0∧0<(a0.length:Int) then
     some ((a0.getD 0 default).2,1)
     else none
    else if (v1.1 == (a0.length:Int))=true then
     if 0≤IntKind.i64.wrap (v1.1 - 1)∧IntKind.i64.wrap (v1.1 - 1)<(a0.length:Int) then
      some ((a0.getD (IntKind.i64.wrap (v1.1 - 1)).toNat default).2,1)
      else none
     else if 0≤IntKind.i64.wrap (v1.1 - 1)∧IntKind.i64.wrap (v1.1 - 1)<(a0.length:Int) then
      if 0≤v1.1∧v1.1<(a0.length:Int) then
       some (IntKind.i64.wrap ((IntKind.i64.wrap (((a0.getD (IntKind.i64.wrap (v1.1 - 1)).toNat default).2)*(IntKind.i64.wrap ((IntKind.i64.wrap (((a0.getD v1.1.toNat default).1) - ((a0.getD (IntKind.i64.wrap (v1.1 - 1)).toNat default).1)))*x0))))+(IntKind.i64.wrap ((IntKind.i64.wrap (((a0.getD v1.1.toNat default).2) - ((a0.getD (IntKind.i64.wrap (v1.1 - 1)).toNat default).2)))*(IntKind.i64.wrap (x1 - (IntKind.i64.wrap (((a0.getD (IntKind.i64.wrap (v1.1 - 1)).toNat default).1)*x0))))))),IntKind.i64.wrap ((IntKind.i64.wrap (((a0.getD v1.1.toNat default).1) - ((a0.getD (IntKind.i64.wrap (v1.1 - 1)).toNat default).1)))*x0))
       else none
      else none
def T189:=qT19 qu7 false r189
attribute [go_sem] T189
def tb189:Fns:=lk [(240,T240.sp)]
theorem tb189_ok:FnsOk Tryz.prog tb189:= .cons f240 .nil
theorem tk189:tb189 240=some T240.sp:=rfl
section
attribute [local go_sem] tk189 Tryz.results189
theorem f189:FnFact Tryz.prog 189 T189.sp:=by
 refine valid_m ty_ok tb189_ok Tryz.func189 rfl Tryz.ntmps189 fun ⟨a0,x1,x0⟩ r hr=>⟨nL rfl,fun stop S=> ?_⟩
 replace hr:r189 a0 x1 x0=some r:=hr
 unfold r189 at hr
 refine S.gx [9] ?_
 obtain ⟨v1,hv1,hr⟩:=of_bind0 hr
 refine gb hv1 ?_
 refine iW hr (fun hc hr=>D0 hr) fun hc hr=> ?_
 refine gr ?_
 refine iW hr (fun hc hr=>D0 hr) fun hc hr=> ?_
 refine gr ?_
 refine iW hr (fun hc hr=>D0 hr) fun hc hr=> ?_
 obtain ⟨hg4,hr⟩:=of_guard0 hr
 obtain ⟨hg5,hr⟩:=of_guard0 hr
 refine gr ?_
 refine S.prune [3,4,7,8] ?_
 refine S.gx [] ?_
 exact D0 hr
end
def b160_2 (v10 v11 v12:L_II):Bd Int Int:=fun s2=>
 if (decide (s2<(v12.length:Int)))=true then
  if 0≤s2∧s2<(v12.length:Int) then
   bindC (r189 v10 ((v12.getD s2.toNat default).1) 1) fun v13=>
    bindC (r189 v11 ((v12.getD s2.toNat default).1) 1) fun v14=>
     if (decide ((IntKind.i64.wrap (v13.1*v14.2))<(IntKind.i64.wrap (v14.1*v13.2))))=true then
      .out (some 13)
      else .next (IntKind.i64.wrap (s2+1))
   else .out none
  else .out (some 0)
def b160_1 (a0 a1:L_II):Bd Int Int:=fun s1=>
 if (decide (s1<(a0.length:Int)))=true then
  if 0≤s1∧s1<(a0.length:Int) then
   bindC (r169 ((a0.getD s1.toNat default).1)) fun v1=>
    if v1=true→(r79 ((a0.getD s1.toNat default).2) 0 1000).isSome=true then
     bindC (r83 (v1 && ((r79 ((a0.getD s1.toNat default).2) 0 1000).getD default)) 2) fun v2=>
      if ((v2 == 0) && (decide (s1>0)))=true then
       if 0≤IntKind.i64.wrap (s1 - 1)∧IntKind.i64.wrap (s1 - 1)<(a0.length:Int) then
        if 0≤IntKind.i64.wrap (s1 - 1)∧IntKind.i64.wrap (s1 - 1)<(a0.length:Int) then
         bindC (r83 ((decide ((IntKind.i64.wrap (((a0.getD s1.toNat default).1) - ((a0.getD (IntKind.i64.wrap (s1 - 1)).toNat default).1)))>0)) && (decide ((IntKind.i64.wrap (((a0.getD s1.toNat default).2) - ((a0.getD (IntKind.i64.wrap (s1 - 1)).toNat default).2)))≥0))) 9) fun v3=>
          bindC (r83 (decide ((IntKind.i64.wrap (2*(IntKind.i64.wrap (((a0.getD s1.toNat default).2) - ((a0.getD (IntKind.i64.wrap (s1 - 1)).toNat default).2)))))≤(IntKind.i64.wrap (((a0.getD s1.toNat default).1) - ((a0.getD (IntKind.i64.wrap (s1 - 1)).toNat default).1))))) 22) fun v4=>
           bindC (r80 [v3,v4]) fun v5=>
            if (v5 != 0)=true then
             .out (some v5)
             else .next (IntKind.i64.wrap (s1+1))
         else .out none
        else .out none
       else if (v2 != 0)=true then
        .out (some v2)
        else .next (IntKind.i64.wrap (s1+1))
     else .out none
   else .out none
  else .out ((r76 a0).bind fun v10=>
   (r76 a1).bind fun v11=>
    (r226 [v10,v11]).bind fun v12=>
     iterC (b160_2 v10 v11 v12) 1000000000 0)
def r160 (a0 a1:L_II):Option (Int):=
 if (decide ((a0.length:Int)>6))=true then
  some 8
  else iterC (b160_1 a0 a1) 1000000000 0
def T160:=qT20 qu3 false r160
attribute [go_sem] T160
def tb160:Fns:=lk [(76,T76.sp),(79,T79.sp),(80,T80.sp),(83,T83.sp),(169,T169.sp),(189,T189.sp),(226,T226.sp)]
theorem tb160_ok:FnsOk Tryz.prog tb160:= .cons f76 (.cons f79 (.cons f80 (.cons f83 (.cons f169 (.cons f189 (.cons f226 .nil))))))
theorem tk160:tb160 76=some T76.sp∧tb160 79=some T79.sp∧tb160 80=some T80.sp∧tb160 83=some T83.sp∧tb160 169=some T169.sp∧tb160 189=some T189.sp∧tb160 226=some T226.sp:=⟨rfl,rfl,rfl,rfl,rfl,rfl,rfl⟩
section
attribute [local go_sem] tk160 Tryz.results160
theorem f160:FnFact Tryz.prog 160 T160.sp:=by
 refine valid_m ty_ok tb160_ok Tryz.func160 rfl Tryz.ntmps160 fun ⟨a0,a1⟩ r hr=>⟨nL rfl,fun stop S=> ?_⟩
 replace hr:r160 a0 a1=some r:=hr
 unfold r160 at hr
 refine S.gx [9,20] ?_
 refine gr ?_
 refine iW hr (fun hc hr=>D0 hr) fun hc hr=> ?_
 refine gr ?_
 refine S.sees [0,1,20,21,22] [] [] ?_ (Stop.iter S (fun s1=>⟨[(0,.c (.d (encF 2 d_II a0))),(1,.c (.d (encF 2 d_II a1))),(20,.c (.d (encF 2 d_II a0))),(21,.c (.d (.int .i64 (a0.length:Int)))),(22,.c (.d (.int .i64 s1)))],[],[]⟩) (b160_1 a0 a1) (fun q=>q=r) hr rfl ?_)
 ·exact lf
 ·intro s1 hr
  unfold b160_1 at hr
  refine S.gx [9,20] ?_
  refine gr ?_
  refine iW1 hr (fun hc hr=> ?_) fun hc hr=> ?_
  ·obtain ⟨hg8,hr⟩:=of_guard1 hr
   obtain ⟨v1,hv1,hr⟩:=of_bind1 hr
   obtain ⟨hg9,hr⟩:=of_guard1 hr
   obtain ⟨v2,hv2,hr⟩:=of_bind1 hr
   try simp only [hv1,hv2,Option.getD_some,Option.isSome_some,true_and,and_assoc]
   repeat (first | refine gG hg9 ?_ | refine gA ?_ | refine gB ?_)
   refine iW1 hr (fun hc hr=> ?_) fun hc hr=>D1 (S.ss [0,1,20,21,22] [] []) hr
   obtain ⟨hg6,hr⟩:=of_guard1 hr
   obtain ⟨hg7,hr⟩:=of_guard1 hr
   refine gr ?_
   refine S.prune [0,1,8,9,20,21,22] ?_
   refine S.gx [20] ?_
   obtain ⟨v3,hv3,hr⟩:=of_bind1 hr
   obtain ⟨v4,hv4,hr⟩:=of_bind1 hr
   obtain ⟨v5,hv5,hr⟩:=of_bind1 hr
   try simp only [hv3,hv4,hv5,Option.getD_some,Option.isSome_some,true_and,and_assoc]
   repeat (first | refine gA ?_ | refine gB ?_)
   exact D1 (S.ss [0,1,20,21,22] [] []) hr
  ·refine gr ?_
   have hr:=of_out0 hr
   obtain ⟨v10,hv10,hr⟩:=of_bind0 hr
   obtain ⟨v11,hv11,hr⟩:=of_bind0 hr
   obtain ⟨v12,hv12,hr⟩:=of_bind0 hr
   refine gb hv10 ?_
   refine gb hv11 ?_
   refine gb hv12 ?_
   refine S.sees [10,11,85,86,87] [] [(79,79),(81,81),(85,85)] ?_ (Stop.iter S (fun s2=>⟨[(10,.c (.own 79)),(11,.c (.own 81)),(85,.c (.own 85)),(86,.c (.d (.int .i64 (v12.length:Int)))),(87,.c (.d (.int .i64 s2)))],[],[(79,.shared (encF 2 d_II v10)),(81,.shared (encF 2 d_II v11)),(85,.owned (encF 2 d_II v12))]⟩) (b160_2 v10 v11 v12) (fun q=>q=r) hr rfl ?_)
   ·exact lf
   ·intro s2 hr
    unfold b160_2 at hr
    refine S.gx [9,20] ?_
    refine gr ?_
    refine iW1 hr (fun hc hr=> ?_) fun hc hr=>D0 hr
    obtain ⟨hg15,hr⟩:=of_guard1 hr
    obtain ⟨v13,hv13,hr⟩:=of_bind1 hr
    obtain ⟨v14,hv14,hr⟩:=of_bind1 hr
    refine gb hv13 ?_
    refine gb hv14 ?_
    refine iW1 hr (fun hc hr=> ?_) fun hc hr=>D1 (S.ss [10,11,85,86,87] [] [(79,79),(81,81),(85,85)]) hr
    refine gr ?_
    refine S.prune [] ?_
    refine S.gx [9] ?_
    exact D0 hr
end
def b72_1 (x0:L_LIIE):Bd (L_II×Int) (Int×Int):=fun s1=>
 if (decide (s1.2<(x0.length:Int)))=true then
  if 0≤s1.2∧s1.2<(x0.length:Int) then
   bindC (r160 (x0.getD s1.2.toNat default) s1.1) fun v3=>
    if (v3 != 0)=true then
     .out (some (s1.2,v3))
     else .next ((x0.getD s1.2.toNat default),IntKind.i64.wrap (s1.2+1))
   else .out none
  else .out (some (0,0))
def r72 (x2 x1:Int) (x3:L_II) (x0:L_LIIE):Option (Int×Int):=
 (r79 x2 1 12).bind fun v1=>
  if (!(!v1))=true→(r79 x1 0 500).isSome=true then
   if ((!v1) || (!((r79 x1 0 500).getD default)))=true then
    some (0,2)
    else (r159 x3).bind fun v2=>
     if (v2.2 != 0)=true then
      some (v2.1,v2.2)
      else if (decide ((x0.length:Int)>4))=true then
       some (0,8)
       else iterC (b72_1 x0) 1000000000 ([],0)
   else none
def T72:=qT21 qu4 false r72
attribute [go_sem] T72
def tb72:Fns:=lk [(79,T79.sp),(159,T159.sp),(160,T160.sp)]
theorem tb72_ok:FnsOk Tryz.prog tb72:= .cons f79 (.cons f159 (.cons f160 .nil))
theorem tk72:tb72 79=some T79.sp∧tb72 159=some T159.sp∧tb72 160=some T160.sp:=⟨rfl,rfl,rfl⟩
section
attribute [local go_sem] tk72 Tryz.results72
theorem f72:FnFact Tryz.prog 72 T72.sp:=by
 refine valid_m ty_ok tb72_ok Tryz.func72 rfl Tryz.ntmps72 fun ⟨x2,x1,x3,x0⟩ r hr=>⟨nL rfl,fun stop S=> ?_⟩
 replace hr:r72 x2 x1 x3 x0=some r:=hr
 unfold r72 at hr
 refine S.gx [] ?_
 obtain ⟨v1,hv1,hr⟩:=of_bind0 hr
 obtain ⟨hg5,hr⟩:=of_guard0 hr
 try simp only [hv1,oG,oI,true_and,and_assoc]
 repeat (first | refine gG hg5 ?_ | refine gA ?_ | refine gB ?_)
 refine iW hr (fun hc hr=>D0 hr) fun hc hr=> ?_
 obtain ⟨v2,hv2,hr⟩:=of_bind0 hr
 refine gb hv2 ?_
 refine iW hr (fun hc hr=>D0 hr) fun hc hr=> ?_
 refine gr ?_
 refine iW hr (fun hc hr=>D0 hr) fun hc hr=> ?_
 refine gr ?_
 refine S.sees [6,35,36,37] [] [] ?_ (Stop.iter S (fun s1=>⟨[(6,.c (.d (encF 2 d_II s1.1))),(35,.c (.d (encF 1 d_LIIE x0))),(36,.c (.d (.int .i64 (x0.length:Int)))),(37,.c (.d (.int .i64 s1.2)))],[],[]⟩) (b72_1 x0) (fun q=>q=r) hr rfl ?_)
 ·exact lf
 ·intro s1 hr
  unfold b72_1 at hr
  refine S.gx [] ?_
  exact D1 (S.ss [6,35,36,37] [] []) hr
end
def b75_1 (a0:L_II):Bd ((List (Int×Int))×Int) L_II:=fun s1=>
 if (decide (s1.2<(a0.length:Int)))=true then
  if 0≤s1.2∧s1.2<(a0.length:Int) then
   if (s1.1.length+1)*16≤140737488355328∧s1.1.length+1≤9223372036854775807 then
    .next (s1.1++[((a0.getD s1.2.toNat default).1,(a0.getD s1.2.toNat default).2)],IntKind.i64.wrap (s1.2+1))
    else .out none
   else .out none
  else .out (some s1.1)
def r75 (a0:L_II):Option (L_II):=
 iterC (b75_1 a0) 1000000000 ([],0)
def T75:=qT15 qu15 false r75
attribute [go_sem] T75
def tb75:Fns:=lk []
theorem tb75_ok:FnsOk Tryz.prog tb75:=FnsOk.nil
section
attribute [local go_sem] Tryz.results75
theorem f75:FnFact Tryz.prog 75 T75.sp:=by
 refine valid_m ty_ok tb75_ok Tryz.func75 rfl Tryz.ntmps75 fun a0 r hr=>⟨nL rfl,fun stop S=> ?_⟩
 replace hr:r75 a0=some r:=hr
 unfold r75 at hr
 refine S.gx [] ?_
 refine gr ?_
 refine S.own0 3 1000300 2 rfl rfl ?_
 refine S.sees [3,6,7,8] [] [(1000300,1000300)] ?_ (Stop.iter S (fun s1=>⟨[(3,.c (.own 1000300)),(6,.c (.d (encF 2 d_II a0))),(7,.c (.d (.int .i64 (a0.length:Int)))),(8,.c (.d (.int .i64 s1.2)))],[],[(1000300,.owned (encF 2 d_II s1.1))]⟩) (b75_1 a0) (fun q=>q=r) hr rfl ?_)
 ·exact lf
 ·intro s1 hr
  unfold b75_1 at hr
  refine S.gx [] ?_
  exact D1 (S.ss [3,6,7,8] [] [(19,1000300)]) hr
end
def b98_1 (x2 x3:Int) (x1:L_II) (x0:L_LIIE) (v2:L_II):Bd (Int×(List (L_II))) (Int×Int×L_II×L_LIIE×L_II×L_LIIE×Int):=fun s1=>
 if (decide (s1.1<(x0.length:Int)))=true then
  if 0≤s1.1∧s1.1<(x0.length:Int) then
   bindC (r76 (x0.getD s1.1.toNat default)) fun v3=>
    if (s1.2.length+1)*24≤140737488355328∧s1.2.length+1≤9223372036854775807 then
     .next (IntKind.i64.wrap (s1.1+1),s1.2++[v3])
     else .out none
   else .out none
  else .out (some (x2,x3,x1,x0,v2,s1.2,0))
def r98 (x2 x3:Int) (x1:L_II) (x0:L_LIIE):Option (Int×Int×L_II×L_LIIE×L_II×L_LIIE×Int):=
 (r72 x2 x3 x1 x0).bind fun v1=>
  if (v1.2 != 0)=true then
   some (0,0,[],[],[],[],v1.2)
   else (r75 x1).bind fun v2=>
    iterC (b98_1 x2 x3 x1 x0 v2) 1000000000 (0,[])
def T98:=qT21 qu17 true r98
attribute [go_sem] T98
def tb98:Fns:=lk [(72,T72.sp),(75,T75.sp),(76,T76.sp)]
theorem tb98_ok:FnsOk Tryz.prog tb98:= .cons f72 (.cons f75 (.cons f76 .nil))
theorem tk98:tb98 72=some T72.sp∧tb98 75=some T75.sp∧tb98 76=some T76.sp:=⟨rfl,rfl,rfl⟩
section
attribute [local go_sem] tk98 Tryz.results98
theorem f98:FnFact Tryz.prog 98 T98.sp:=by
 refine valid_m ty_ok tb98_ok Tryz.func98 rfl Tryz.ntmps98 fun ⟨x2,x3,x1,x0⟩ r hr=>⟨nL rfl,fun stop S=> ?_⟩
 replace hr:r98 x2 x3 x1 x0=some r:=hr
 unfold r98 at hr
 refine S.gx [] ?_
 obtain ⟨v1,hv1,hr⟩:=of_bind0 hr
 refine gb hv1 ?_
 refine iW hr (fun hc hr=>D0 hr) fun hc hr=> ?_
 obtain ⟨v2,hv2,hr⟩:=of_bind0 hr
 refine gb hv2 ?_
 refine S.own0b 6 5 2000605 1 rfl rfl (nL rfl) rfl ?_
 refine S.sees [2,6,24,25,26] [(2,2),(6,6)] [(2000605,2000605),(21,21)] ?_ (Stop.iter S (fun s1=>⟨[(2,.c (.ref 2 0)),(6,.c (.ref 6 0)),(24,.c (.d (encF 1 d_LIIE x0))),(25,.c (.d (.int .i64 (x0.length:Int)))),(26,.c (.d (.int .i64 s1.1)))],[(2,[.d (.int .i64 0),.d (.int .i64 0),.nils,.nils,.nils,.nils]),(6,[.d (.int .i64 x2),.d (.int .i64 x3),.d (encF 2 d_II x1),.d (encF 1 d_LIIE x0),.own 21,.own 2000605])],[(2000605,.owned (encF 1 d_LIIE s1.2)),(21,.owned (encF 2 d_II v2))]⟩) (b98_1 x2 x3 x1 x0 v2) (fun q=>q=r) hr rfl ?_)
 ·exact lf
 ·intro s1 hr
  unfold b98_1 at hr
  refine S.gx [] ?_
  exact D1 (S.ss [2,6,24,25,26] [(2,2),(6,6)] [(35,2000605),(21,21)]) hr
end
def r99 (x1 x2:Int) (x3:L_II) (x4:L_LIIE) (x0:L_II) (x5:L_LIIE) (a1:Int):Option (Bool):=
 if 0≤0∧0<(x0.length:Int) then
  if 0≤IntKind.i64.wrap ((x0.length:Int) - 1)∧IntKind.i64.wrap ((x0.length:Int) - 1)<(x0.length:Int) then
   (r79 a1 ((x0.getD 0 default).1) ((x0.getD (IntKind.i64.wrap ((x0.length:Int) - 1)).toNat default).1)).bind fun v1=>
    some v1
   else none
  else none
def T99:=qT22 qu2 false r99
attribute [go_sem] T99
def tb99:Fns:=lk [(79,T79.sp)]
theorem tb99_ok:FnsOk Tryz.prog tb99:= .cons f79 .nil
theorem tk99:tb99 79=some T79.sp:=rfl
section
attribute [local go_sem] tk99 Tryz.results99
theorem f99:FnFact Tryz.prog 99 T99.sp:=by
 refine valid_m ty_ok tb99_ok Tryz.func99 rfl Tryz.ntmps99 fun ⟨x1,x2,x3,x4,x0,x5,a1⟩ r hr=>⟨nL rfl,fun stop S=> ?_⟩
 replace hr:r99 x1 x2 x3 x4 x0 x5 a1=some r:=hr
 unfold r99 at hr
 refine S.gx [] ?_
 exact D0 hr
end
def r230 (a0 x0 x1:Int) (x2:L_II) (x3:L_LIIE) (x4:L_II) (x5:L_LIIE):Option (Bool):=
 (r99 x0 x1 x2 x3 x4 x5 a0).bind fun v1=>
  some (!v1)
def T230:=qT23 qu2 false r230
attribute [go_sem] T230
def tb230:Fns:=lk [(99,T99.sp)]
theorem tb230_ok:FnsOk Tryz.prog tb230:= .cons f99 .nil
theorem tk230:tb230 99=some T99.sp:=rfl
section
attribute [local go_sem] tk230 Tryz.results230
theorem f230:FnFact Tryz.prog 230 T230.sp:=by
 refine valid_m ty_ok tb230_ok Tryz.func230 rfl Tryz.ntmps230 fun ⟨a0,x0,x1,x2,x3,x4,x5⟩ r hr=>⟨nL rfl,fun stop S=> ?_⟩
 replace hr:r230 a0 x0 x1 x2 x3 x4 x5=some r:=hr
 unfold r230 at hr
 refine S.gx [] ?_
 exact D0 hr
end
def b170_1 (a0:L_I) (x0 x1:Int) (x2:L_II) (x3:L_LIIE) (x4:L_II) (x5:L_LIIE):Bd Int Int:=fun s1=>
 if (decide (s1<(a0.length:Int)))=true then
  if 0≤s1∧s1<(a0.length:Int) then
   bindC (r230 (a0.getD s1.toNat default) x0 x1 x2 x3 x4 x5) fun v1=>
    if v1=true then
     .out (some s1)
     else .next (IntKind.i64.wrap (s1+1))
   else .out none
  else .out (some (-1))
def r170 (a0:L_I) (x0 x1:Int) (x2:L_II) (x3:L_LIIE) (x4:L_II) (x5:L_LIIE):Option (Int):=
 iterC (b170_1 a0 x0 x1 x2 x3 x4 x5) 1000000000 0
def T170:=qT24 qu3 false r170
attribute [go_sem] T170
def tb170:Fns:=lk [(230,T230.sp)]
theorem tb170_ok:FnsOk Tryz.prog tb170:= .cons f230 .nil
theorem tk170:tb170 230=some T230.sp:=rfl
section
attribute [local go_sem] tk170 Tryz.results170
theorem f170:FnFact Tryz.prog 170 T170.sp:=by
 refine valid_m ty_ok tb170_ok Tryz.func170 rfl Tryz.ntmps170 fun ⟨a0,x0,x1,x2,x3,x4,x5⟩ r hr=>⟨nL rfl,fun stop S=> ?_⟩
 replace hr:r170 a0 x0 x1 x2 x3 x4 x5=some r:=hr
 unfold r170 at hr
 refine S.gx [] ?_
 refine gr ?_
 refine S.sees [0,1,7,8] [] [] ?_ (Stop.iter S (fun s1=>⟨[(0,.c (.d (encF 1 d_I a0))),(1,.c (.clo 230 [.sptr [.int .i64 x0,.int .i64 x1,encF 2 d_II x2,encF 1 d_LIIE x3,encF 2 d_II x4,encF 1 d_LIIE x5] 0])),(7,.c (.d (.int .i64 (a0.length:Int)))),(8,.c (.d (.int .i64 s1)))],[],[]⟩) (b170_1 a0 x0 x1 x2 x3 x4 x5) (fun q=>q=r) hr rfl ?_)
 ·exact lf
 ·intro s1 hr
  unfold b170_1 at hr
  refine S.gx [] ?_
  exact D1 (S.ss [0,1,7,8] [] []) hr
end
def r165 (x0 x1:Int) (x2:L_II) (x3:L_LIIE) (x4:L_II) (x5:L_LIIE) (a1:L_I):Option (Int×Int):=
 if ((a1.length:Int) != x0)=true then
  some (0,10)
  else (r170 a1 x0 x1 x2 x3 x4 x5).bind fun v1=>
   if (decide (v1≥0))=true then
    some (v1,2)
    else some (0,0)
def T165:=qT25 qu4 false r165
attribute [go_sem] T165
def tb165:Fns:=lk [(170,T170.sp)]
theorem tb165_ok:FnsOk Tryz.prog tb165:= .cons f170 .nil
theorem tk165:tb165 170=some T170.sp:=rfl
section
attribute [local go_sem] tk165 Tryz.results165
theorem f165:FnFact Tryz.prog 165 T165.sp:=by
 refine valid_m ty_ok tb165_ok Tryz.func165 rfl Tryz.ntmps165 fun ⟨x0,x1,x2,x3,x4,x5,a1⟩ r hr=>⟨nL rfl,fun stop S=> ?_⟩
 replace hr:r165 x0 x1 x2 x3 x4 x5 a1=some r:=hr
 unfold r165 at hr
 refine S.gx [] ?_
 exact D0 hr
end
end Go.Proofs.YthldpejmofhaoaaGreatDoor

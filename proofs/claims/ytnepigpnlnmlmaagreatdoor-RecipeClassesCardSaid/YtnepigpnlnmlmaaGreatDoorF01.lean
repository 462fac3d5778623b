/- Contracts of functions, written by wip/dec. -/
import Derived.Test.YtnepigpnlnmlmaaGreatDoorF00
set_option linter.unusedVariables false
set_option linter.unusedSimpArgs false
set_option linter.constructorNameAsVariable false
set_option maxHeartbeats 4000000
set_option maxRecDepth 20000
namespace Go.Proofs.YtnepigpnlnmlmaaGreatDoor
open Go.Abs
section
variable {β:Type} [Inhabited β] (u:β→List RV) (al:Bool)
def qw6 (a0:L_LIIE):List Arg:=[.c (encF 1 d_LIIE a0)]
def qd6:List Arg→L_LIIE
 | [.c c0]=>decF g_LIIE c0
 | _=>default
def qT6 (r:L_LIIE→Option β):=mkT (u1 qw6) qd6 (u1 r) u al
attribute [go_sem] qw6 qd6 qT6
def qw8 (a0 a1 a2 a3:Int):List Arg:=[.agg [.int .i64 a0,.int .i64 a1],.agg [.int .i64 a2,.int .i64 a3]]
def qd8:List Arg→Int×Int×Int×Int
 | [.agg [c0,c1],.agg [c2,c3]]=>(dInt c0,dInt c1,dInt c2,dInt c3)
 | _=>default
def qT8 (r:Int→Int→Int→Int→Option β):=mkT (u4 qw8) qd8 (u4 r) u al
attribute [go_sem] qw8 qd8 qT8
def qw9 (a0:L_II) (a1 a2:Int):List Arg:=[.c (encF 2 d_II a0),.agg [.int .i64 a1,.int .i64 a2],.clo 298 []]
def qd9:List Arg→L_II×Int×Int
 | [.c c0,.agg [c1,c2],.clo _ []]=>(decF g_II c0,dInt c1,dInt c2)
 | _=>default
def qT9 (r:L_II→Int→Int→Option β):=mkT (u3 qw9) qd9 (u3 r) u al
attribute [go_sem] qw9 qd9 qT9
def qw10 (a0:L_II) (a1 a2:Int):List Arg:=[.c (encF 2 d_II a0),.agg [.int .i64 a1,.int .i64 a2]]
def qd10:List Arg→L_II×Int×Int
 | [.c c0,.agg [c1,c2]]=>(decF g_II c0,dInt c1,dInt c2)
 | _=>default
def qT10 (r:L_II→Int→Int→Option β):=mkT (u3 qw10) qd10 (u3 r) u al
attribute [go_sem] qw10 qd10 qT10
def qu0 (v:Int×Int×L_II×L_LIIE×L_I×L_I×L_II×Int×Int):List RV:=[.agg [.d (.int .i64 v.1),.d (.int .i64 v.2.1),.own (encF 2 d_II v.2.2.1),.own (encF 1 d_LIIE v.2.2.2.1),.own (encF 1 d_I v.2.2.2.2.1),.own (encF 1 d_I v.2.2.2.2.2.1),.own (encF 2 d_II v.2.2.2.2.2.2.1),.d (.int .i64 v.2.2.2.2.2.2.2.1),.d (.int .i64 v.2.2.2.2.2.2.2.2)]]
attribute [go_sem] qu0
end
def r58:Option (Int×Int×L_II×L_LIIE×L_I×L_I×L_II×Int×Int):=
 some (3,500,[(0,300),(1000,800),(3000,1300)],[[(300,0)],[(300,0),(1300,400)]],[0,0,0],[0,0,0],[(1000,1000),(500,500),(0,0)],0,0)
@[go_sem] def T58:=qT0 qu0 true r58
theorem f58:FnFact Tryz.prog 58 T58.sp:=by
 refine vm .nil Tryz.func58 Tryz.ntmps58 fun _ r hr stop S=> ?_
 rw [uq0,r58] at hr
 refine S.gx [] ?_
 exact D0 hr
def r59:Option (L_IIIIIH):=
 some [(0,400,0,2,0,Hl.nil),(2,0,1,3,0,Hl.nil)]
@[go_sem] def T59:=qT0 qu1 true r59
theorem f59:FnFact Tryz.prog 59 T59.sp:=by
 refine vm .nil Tryz.func59 Tryz.ntmps59 fun _ r hr stop S=> ?_
 rw [uq0,r59] at hr
 refine S.gx [] ?_
 exact D0 hr
def r190 (a0 a1 a2:Int):Option (Bool):=
 some ((decide (a1≤a0)) && (decide (a0≤a2)))
@[go_sem] def T190:=qT1 qu2 false r190
theorem f190:FnFact Tryz.prog 190 T190.sp:=by
 refine vm .nil Tryz.func190 Tryz.ntmps190 fun ⟨a0,a1,a2⟩ r hr stop S=> ?_
 rw [uq3,r190] at hr
 refine S.gx [] ?_
 repeat (first | refine gA ?_ | refine gB ?_)
 exact D0 hr
def r216 (a0:Bool) (a1:Int):Option (Int):=
 if a0=true then
  some 0
  else some a1
@[go_sem] def T216:=qT2 qu3 false r216
theorem f216:FnFact Tryz.prog 216 T216.sp:=by
 refine vm .nil Tryz.func216 Tryz.ntmps216 fun ⟨a0,a1⟩ r hr stop S=> ?_
 rw [uq2,r216] at hr
 refine S.gx [] ?_
 exact D0 hr
def b217_1 (a0:L_I):Bd Int Int:=fun s1=>
 if (decide (s1<(a0.length:Int)))=true then
  if 0≤s1∧s1<(a0.length:Int) then
   if ((a0.getD s1.toNat default) != 0)=true then
    .out (some (a0.getD s1.toNat default))
    else .next (IntKind.i64.wrap (s1+1))
   else .out none
  else .out (some 0)
def r217 (a0:L_I):Option (Int):=
 iterC (b217_1 a0) 1000000000 0
@[go_sem] def T217:=qT3 qu3 false r217
theorem f217:FnFact Tryz.prog 217 T217.sp:=by
 refine vm .nil Tryz.func217 Tryz.ntmps217 fun a0 r hr stop S=> ?_
 rw [uq1,r217] at hr
 refine S.gx [] ?_
 refine gr ?_
 refine S.li [5,6,7] [] [] (fun s1=>⟨[(5,.c (.d (encF 1 d_I a0))),sI 6 (a0.length:Int),sI 7 s1],[],[]⟩) (b217_1 a0) (fun q=>q=r) hr rfl ?_
 intro s1 hr
 unfold b217_1 at hr
 refine S.gx [] ?_
 exact D1 (S.ss [5,6,7] [] []) hr
def r249 (a0:Int):Option (Bool):=
 (r190 a0 200 3000).bind fun v1=>
  some v1
@[go_sem] def T249:=qT4 qu2 false r249
@[go_sem] def tb249 (k:Nat):=lk [(190,T190.sp)] k
theorem f249:FnFact Tryz.prog 249 T249.sp:=by
 refine vm (tb:=tb249) (.cons f190 .nil) Tryz.func249 Tryz.ntmps249 fun a0 r hr stop S=> ?_
 rw [uq1,r249] at hr
 refine S.gx [] ?_
 exact D0 hr
def b191_1 (a0:L_II):Bd Int (Int×Int):=fun s1=>
 if (decide (s1<(a0.length:Int)))=true then
  if 0≤s1∧s1<(a0.length:Int) then
   bindC (r190 ((a0.getD s1.toNat default).1) 0 1000000) fun v4=>
    if v4=true→(r249 ((a0.getD s1.toNat default).2)).isSome=true then
     bindC (r216 (v4 && ((r249 ((a0.getD s1.toNat default).2)).getD default)) 2) fun v5=>
      if ((v5 == 0) && (decide (s1>0)))=true then
       if 0≤IntKind.i64.wrap (s1 - 1)∧IntKind.i64.wrap (s1 - 1)<(a0.length:Int) then
        if 0≤IntKind.i64.wrap (s1 - 1)∧IntKind.i64.wrap (s1 - 1)<(a0.length:Int) then
         bindC (r216 ((decide ((IntKind.i64.wrap (((a0.getD s1.toNat default).1) - ((a0.getD (IntKind.i64.wrap (s1 - 1)).toNat default).1)))>0)) && (decide ((IntKind.i64.wrap (((a0.getD s1.toNat default).2) - ((a0.getD (IntKind.i64.wrap (s1 - 1)).toNat default).2)))>0))) 9) fun v6=>
          bindC (r216 (decide ((IntKind.i64.wrap (((a0.getD s1.toNat default).2) - ((a0.getD (IntKind.i64.wrap (s1 - 1)).toNat default).2)))≤(IntKind.i64.wrap (((a0.getD s1.toNat default).1) - ((a0.getD (IntKind.i64.wrap (s1 - 1)).toNat default).1))))) 22) fun v7=>
           bindC (r217 [v6,v7]) fun v8=>
            if (v8 != 0)=true then
             .out (some (s1,v8))
             else .next (IntKind.i64.wrap (s1+1))
         else .out none
        else .out none
       else if (v5 != 0)=true then
        .out (some (s1,v5))
        else .next (IntKind.i64.wrap (s1+1))
     else .out none
   else .out none
  else .out (some (0,0))
def r191 (a0:L_II):Option (Int×Int):=
 (r216 (decide ((a0.length:Int)≥2)) 10).bind fun v1=>
  (r216 (decide ((a0.length:Int)≤8)) 8).bind fun v2=>
   (r217 [v1,v2]).bind fun v3=>
    if (v3 != 0)=true then
     some (0,v3)
     else iterC (b191_1 a0) 1000000000 0
@[go_sem] def T191:=qT5 qu4 false r191
@[go_sem] def tb191 (k:Nat):=lk [(190,T190.sp),(216,T216.sp),(217,T217.sp),(249,T249.sp)] k
theorem f191:FnFact Tryz.prog 191 T191.sp:=by
 refine vm (tb:=tb191) (.cons f190 (.cons f216 (.cons f217 (.cons f249 .nil)))) Tryz.func191 Tryz.ntmps191 fun a0 r hr stop S=> ?_
 rw [uq1,r191] at hr
 refine S.gx [10] ?_
 obtain ⟨v1,hv1,hr⟩:=of_bind0 hr
 obtain ⟨v2,hv2,hr⟩:=of_bind0 hr
 obtain ⟨v3,hv3,hr⟩:=of_bind0 hr
 refine gb hv1 ?_
 refine gb hv2 ?_
 refine gb hv3 ?_
 refine iW hr (fun hc hr=>D0 hr) fun hc hr=> ?_
 refine gr ?_
 refine S.li [0,23,24,25] [] [] (fun s1=>⟨[(0,.c (.d (encF 2 d_II a0))),(23,.c (.d (encF 2 d_II a0))),sI 24 (a0.length:Int),sI 25 s1],[],[]⟩) (b191_1 a0) (fun q=>q=r) hr rfl ?_
 intro s1 hr
 have z1:=S.ss [0,23,24,25] [] []
 unfold b191_1 at hr
 refine S.gw [10] ?_
 refine iW1 hr (fun hc hr=> ?_) fun hc hr=>D0 hr
 obtain ⟨hg11,hr⟩:=of_guard1 hr
 obtain ⟨v4,hv4,hr⟩:=of_bind1 hr
 obtain ⟨hg12,hr⟩:=of_guard1 hr
 obtain ⟨v5,hv5,hr⟩:=of_bind1 hr
 try simp only [hv4,hv5,Option.getD_some,Option.isSome_some,true_and,and_assoc]
 repeat (first | refine gG hg12 ?_ | refine gA ?_ | refine gB ?_)
 refine iW1 hr (fun hc hr=> ?_) fun hc hr=>D1 z1 hr
 obtain ⟨hg9,hr⟩:=of_guard1 hr
 obtain ⟨hg10,hr⟩:=of_guard1 hr
 refine gr ?_
 refine S.prune [0,5,8,9,23,24,25] ?_
 refine S.gx [] ?_
 obtain ⟨v6,hv6,hr⟩:=of_bind1 hr
 obtain ⟨v7,hv7,hr⟩:=of_bind1 hr
 obtain ⟨v8,hv8,hr⟩:=of_bind1 hr
 try simp only [hv6,hv7,hv8,Option.getD_some,Option.isSome_some,true_and,and_assoc]
 repeat (first | refine gA ?_ | refine gB ?_)
 exact D1 z1 hr
def b250_1 (a0:L_II):Bd ((List (Int×Int))×Int) L_II:=fun s1=>
 if (decide (s1.2<(a0.length:Int)))=true then
  if 0≤s1.2∧s1.2<(a0.length:Int) then
   if (s1.1.length+1)*16≤140737488355328∧s1.1.length+1≤9223372036854775807 then
    .next (s1.1++[((a0.getD s1.2.toNat default).1,(a0.getD s1.2.toNat default).2)],IntKind.i64.wrap (s1.2+1))
    else .out none
   else .out none
  else .out (some s1.1)
def r250 (a0:L_II):Option (L_II):=
 iterC (b250_1 a0) 1000000000 ([],0)
@[go_sem] def T250:=qT5 qu5 false r250
theorem f250:FnFact Tryz.prog 250 T250.sp:=by
 refine vm .nil Tryz.func250 Tryz.ntmps250 fun a0 r hr stop S=> ?_
 rw [uq1,r250] at hr
 refine S.gx [] ?_
 refine gr ?_
 refine S.own0 3 1000300 2 rfl rfl ?_
 refine S.li [3,6,7,8] [] [(1000300,1000300)] (fun s1=>⟨[sO 3 1000300,(6,.c (.d (encF 2 d_II a0))),sI 7 (a0.length:Int),sI 8 s1.2],[],[(1000300,.owned (encF 2 d_II s1.1))]⟩) (b250_1 a0) (fun q=>q=r) hr rfl ?_
 intro s1 hr
 unfold b250_1 at hr
 refine S.gx [] ?_
 exact D1 (S.ss [3,6,7,8] [] [(19,1000300)]) hr
theorem grow296w (w:World) (m:Nat) (h0:0<m) (h1:m≤1000000) :
 Calls Tryz.prog 296 #[.slice none 0 0,.int .i64 (m:Int)] w fun e w'=>∃ v,e= .returned v∧∃ cap c,v= .slice (some ⟨w.heap.size,0,none⟩) 0 cap∧w'=w.drew.alloc (.cells c 371)∧c.size=cap*2:=by
 have hbytes:Tryz.t371.bytes=16:=rfl
 have hns:Builtin.nextslicecap m 0=m:=nextslicecap_zero h0
 go_enter Tryz.func296,Tryz.ntmps296
 go_wp2
 all_goals try (exfalso; simp only [hbytes,hns] at *; omega)
 all_goals go_ret
 refine ⟨_,rfl,_,rfl,_,rfl,?_⟩
 have hcap:=grownCap_ge w m 0 371
 simp only [grownCap] at hcap
 simp [Builtin.zeroCells]
 omega
theorem grow296z (w:World) :
 Calls Tryz.prog 296 #[.slice none 0 0,.int .i64 0] w fun e w'=>∃ v,e= .returned v∧v= .slice none 0 0∧w'=w:=by
 go_enter Tryz.func296,Tryz.ntmps296
 go_wp2
 all_goals go_ret
 exact ⟨_,rfl,rfl,rfl⟩
theorem grow296 (n:Int) (h0:0≤n) (h1:n≤1000000) (w:World):Calls Tryz.prog 296 #[.slice none 0 0,.int .i64 n] w fun e w'=>∃ v,e= .returned v∧GrowPost 2 w w' v:=by
 obtain ⟨m,rfl⟩:∃ m:Nat,n=m:=⟨n.toNat,by omega⟩
 rcases Nat.eq_zero_or_pos m with rfl | hm
 ·refine (grow296z w).mono ?_
  rintro e w' ⟨v,rfl,rfl,rfl⟩
  exact ⟨_,rfl,.refl _,Nat.le_refl _,fun _ _=>rfl,.inl rfl⟩
 ·refine (grow296w w m hm (by omega)).mono ?_
  rintro e w' ⟨v,rfl,cap,c,rfl,rfl,hc⟩
  have hh:(w.drew.alloc (.cells c 371)).heap=w.heap.push (.cells c 371 (0,0)):=rfl
  refine ⟨_,rfl,⟨rfl,rfl,rfl⟩,by rw [hh,Array.size_push]; exact Nat.le_succ _,fun B hB=> ?_,.inr ⟨_,cap,c,_,rfl,Nat.le_refl _,by rw [hh,Array.size_push]; exact Nat.lt_succ_self _,by rw [hh,Array.getElem?_push_size],hc⟩⟩
  rw [hh,Array.getElem?_push,if_neg (Nat.ne_of_lt hB)]
def b251_2 (a0:L_LIIE):Bd (Int×(List (Int×Int))) L_II:=fun s2=>
 if (decide (s2.1<(a0.length:Int)))=true then
  if 0≤s2.1∧s2.1<(a0.length:Int) then
   if (s2.2.length+(a0.getD s2.1.toNat default).length)*16≤140737488355328∧s2.2.length+(a0.getD s2.1.toNat default).length≤9223372036854775807 then
    .next (IntKind.i64.wrap (s2.1+1),s2.2++(a0.getD s2.1.toNat default))
    else .out none
   else .out none
  else .out (some s2.2)
def b251_1 (a0:L_LIIE):Bd (Int×Int) L_II:=fun s1=>
 if (decide (s1.2<(a0.length:Int)))=true then
  if 0≤s1.2∧s1.2<(a0.length:Int) then
   if (decide ((IntKind.i64.wrap (s1.1+((a0.getD s1.2.toNat default).length:Int)))<0))=true then
    .out none
    else .next (IntKind.i64.wrap (s1.1+((a0.getD s1.2.toNat default).length:Int)),IntKind.i64.wrap (s1.2+1))
   else .out none
  else .out (if 0≤s1.1∧s1.1≤1000000 then
   iterC (b251_2 a0) 1000000000 (0,([]:List (Int×Int)))
   else none)
def r251 (a0:L_LIIE):Option (L_II):=
 iterC (b251_1 a0) 1000000000 (0,0)
@[go_sem] def T251:=qT6 qu5 false r251
theorem f251:FnFact Tryz.prog 251 T251.sp:=by
 refine vm .nil Tryz.func251 Tryz.ntmps251 fun a0 r hr stop S=> ?_
 rw [uq1,r251] at hr
 refine S.gx [9] ?_
 refine gr ?_
 refine S.li [0,3,9,10,11] [] [] (fun s1=>⟨[(0,.c (.d (encF 1 d_LIIE a0))),sI 3 s1.1,(9,.c (.d (encF 1 d_LIIE a0))),sI 10 (a0.length:Int),sI 11 s1.2],[],[]⟩) (b251_1 a0) (fun q=>q=r) hr rfl ?_
 intro s1 hr
 unfold b251_1 at hr
 refine S.gw [9] ?_
 refine iW1 hr (fun hc hr=> ?_) fun hc hr=> ?_
 ·obtain ⟨hg1,hr⟩:=of_guard1 hr
  refine gr ?_
  refine iW1 hr (fun hc hr=> ?_) fun hc hr=>D1 (S.ss [0,3,9,10,11] [] []) hr
  refine gr ?_
  first | cases hr | exact hr.elim
 ·refine gr ?_
  have hr:=of_out0 hr
  refine gr ?_
  obtain ⟨hg2,hr⟩:=of_guard0 hr
  refine gr ?_
  refine S.callGrow 1 23 24 3000024 2 rfl rfl rfl rfl (by decide) Tryz.func296 (by decide) rfl (grow296 _ hg2.1 hg2.2) ?_
  refine gs ?_
  refine S.gw [9] ?_
  refine S.li [6,25,26,27] [] [(3000024,3000024)] (fun s2=>⟨[sO 6 3000024,(25,.c (.d (encF 1 d_LIIE a0))),sI 26 (a0.length:Int),sI 27 s2.1],[],[(3000024,.owned (encF 2 d_II s2.2))]⟩) (b251_2 a0) (fun q=>q=r) hr rfl ?_
  intro s2 hr
  unfold b251_2 at hr
  refine S.gx [9] ?_
  exact D1 (S.ss [6,25,26,27] [] [(33,3000024)]) hr
def r254 (a0:Int):Option (Bool):=
 some (a0 != a0)
@[go_sem] def T254:=qT4 qu2 false r254
theorem f254:FnFact Tryz.prog 254 T254.sp:=by
 refine vm .nil Tryz.func254 Tryz.ntmps254 fun a0 r hr stop S=> ?_
 rw [uq1,r254] at hr
 refine S.gx [] ?_
 exact D0 hr
def r299 (a0 a1:Int):Option (Int):=
 (r254 a0).bind fun v1=>
  (r254 a1).bind fun v2=>
   if v1=true then
    if v2=true then
     some 0
     else some (-1)
    else if v2=true then
     some 1
     else if (decide (a0<a1))=true then
      some (-1)
      else if (decide (a0>a1))=true then
       some 1
       else some 0
@[go_sem] def T299:=qT7 qu3 false r299
@[go_sem] def tb299 (k:Nat):=lk [(254,T254.sp)] k
theorem f299:FnFact Tryz.prog 299 T299.sp:=by
 refine vm (tb:=tb299) (.cons f254 .nil) Tryz.func299 Tryz.ntmps299 fun ⟨a0,a1⟩ r hr stop S=> ?_
 rw [uq2,r299] at hr
 refine S.gx [] ?_
 exact D0 hr
def r298 (x0 x3 x1 x2:Int):Option (Int):=
 (r299 (IntKind.i64.wrap (x0*x2)) x1).bind fun v1=>
  some v1
@[go_sem] def T298:=qT8 qu3 false r298
@[go_sem] def tb298 (k:Nat):=lk [(299,T299.sp)] k
theorem f298:FnFact Tryz.prog 298 T298.sp:=by
 refine vm (tb:=tb298) (.cons f299 .nil) Tryz.func298 Tryz.ntmps298 fun ⟨x0,x3,x1,x2⟩ r hr stop S=> ?_
 rw [uq4,r298] at hr
 refine S.gx [] ?_
 exact D0 hr
def b297_1 (a0:L_II) (x0 x1:Int):Bd (Int×Int) (Int×Bool):=fun s1=>
 if (decide (s1.1<s1.2))=true then
  if 0≤IntKind.i64.wrap ((IntKind.u64.wrap (IntKind.i64.wrap (s1.1+s1.2))) / 2 ^ 1)∧IntKind.i64.wrap ((IntKind.u64.wrap (IntKind.i64.wrap (s1.1+s1.2))) / 2 ^ 1)<(a0.length:Int) then
   bindC (r298 ((a0.getD (IntKind.i64.wrap ((IntKind.u64.wrap (IntKind.i64.wrap (s1.1+s1.2))) / 2 ^ 1)).toNat default).1) ((a0.getD (IntKind.i64.wrap ((IntKind.u64.wrap (IntKind.i64.wrap (s1.1+s1.2))) / 2 ^ 1)).toNat default).2) x0 x1) fun v1=>
    if (decide (v1<0))=true then
     .next (IntKind.i64.wrap ((IntKind.i64.wrap ((IntKind.u64.wrap (IntKind.i64.wrap (s1.1+s1.2))) / 2 ^ 1))+1),s1.2)
     else .next (s1.1,IntKind.i64.wrap ((IntKind.u64.wrap (IntKind.i64.wrap (s1.1+s1.2))) / 2 ^ 1))
   else .out none
  else .out (if (decide (s1.1<(a0.length:Int)))=true→0≤s1.1∧s1.1<(a0.length:Int) then
   if (decide (s1.1<(a0.length:Int)))=true→(r298 ((a0.getD s1.1.toNat default).1) ((a0.getD s1.1.toNat default).2) x0 x1).isSome=true then
    some (s1.1,(decide (s1.1<(a0.length:Int))) && (((r298 ((a0.getD s1.1.toNat default).1) ((a0.getD s1.1.toNat default).2) x0 x1).getD default) == 0))
    else none
   else none)
def r297 (a0:L_II) (x0 x1:Int):Option (Int×Bool):=
 iterC (b297_1 a0 x0 x1) 1000000000 (0,(a0.length:Int))
@[go_sem] def T297:=qT9 qu6 false r297
@[go_sem] def tb297 (k:Nat):=lk [(298,T298.sp)] k
theorem f297:FnFact Tryz.prog 297 T297.sp:=by
 refine vm (tb:=tb297) (.cons f298 .nil) Tryz.func297 Tryz.ntmps297 fun ⟨a0,x0,x1⟩ r hr stop S=> ?_
 rw [uq3,r297] at hr
 refine S.gx [] ?_
 refine gr ?_
 refine S.li [0,2,4,8,9,10] [(4,4)] [] (fun s1=>⟨[(0,.c (.d (encF 2 d_II a0))),(2,.c (.clo 298 [])),sR 4 4,sI 8 (a0.length:Int),sI 9 s1.1,sI 10 s1.2],[(4,[iC x0,iC x1])],[]⟩) (b297_1 a0 x0 x1) (fun q=>q=r) hr rfl ?_
 intro s1 hr
 unfold b297_1 at hr
 refine S.gw [] ?_
 refine iW1 hr (fun hc hr=>D1 (S.ss [0,2,4,8,9,10] [(4,4)] []) hr) fun hc hr=> ?_
 refine gr ?_
 have hr:=of_out0 hr
 obtain ⟨hg3,hr⟩:=of_guard0 hr
 obtain ⟨hg4,hr⟩:=of_guard0 hr
 repeat (first | refine gG hg3 ?_ | refine gG hg4 ?_ | refine gA ?_ | refine gB ?_)
 exact D0 hr
def r252 (a0:L_II) (x1 x0:Int):Option (Int×Int):=
 (r297 a0 x1 x0).bind fun v1=>
  if ((a0.length:Int) == 0)=true then
   some (0,1)
   else if (v1.1 == 0)=true then
    if 0≤0∧0<(a0.length:Int) then
     some ((a0.getD 0 default).2,1)
     else none
    else if (v1.1 == (a0.length:Int))=true then
     if 0≤IntKind.i64.wrap (v1.1 - 1)∧IntKind.i64.wrap (v1.1 - 1)<(a0.length:Int) then
      some ((a0.getD (IntKind.i64.wrap (v1.1 - 1)).toNat default).2,1)
      else none
     else if 0≤IntKind.i64.wrap (v1.1 - 1)∧IntKind.i64.wrap (v1.1 - 1)<(a0.length:Int) then
      if 0≤v1.1∧v1.1<(a0.length:Int) then
       some (IntKind.i64.wrap ((IntKind.i64.wrap (((a0.getD (IntKind.i64.wrap (v1.1 - 1)).toNat default).2)*(IntKind.i64.wrap ((IntKind.i64.wrap (((a0.getD v1.1.toNat default).1) - ((a0.getD (IntKind.i64.wrap (v1.1 - 1)).toNat default).1)))*x0))))+(IntKind.i64.wrap ((IntKind.i64.wrap (((a0.getD v1.1.toNat default).2) - ((a0.getD (IntKind.i64.wrap (v1.1 - 1)).toNat default).2)))*(IntKind.i64.wrap (x1 - (IntKind.i64.wrap (((a0.getD (IntKind.i64.wrap (v1.1 - 1)).toNat default).1)*x0))))))),IntKind.i64.wrap ((IntKind.i64.wrap (((a0.getD v1.1.toNat default).1) - ((a0.getD (IntKind.i64.wrap (v1.1 - 1)).toNat default).1)))*x0))
       else none
      else none
@[go_sem] def T252:=qT10 qu7 false r252
@[go_sem] def tb252 (k:Nat):=lk [(297,T297.sp)] k
theorem f252:FnFact Tryz.prog 252 T252.sp:=by
 refine vm (tb:=tb252) (.cons f297 .nil) Tryz.func252 Tryz.ntmps252 fun ⟨a0,x1,x0⟩ r hr stop S=> ?_
 rw [uq3,r252] at hr
 refine S.gx [9] ?_
 obtain ⟨v1,hv1,hr⟩:=of_bind0 hr
 refine gb hv1 ?_
 refine iW hr (fun hc hr=>D0 hr) fun hc hr=> ?_
 refine gr ?_
 refine iW hr (fun hc hr=>D0 hr) fun hc hr=> ?_
 refine gr ?_
 refine iW hr (fun hc hr=>D0 hr) fun hc hr=> ?_
 obtain ⟨hg4,hr⟩:=of_guard0 hr
 obtain ⟨hg5,hr⟩:=of_guard0 hr
 refine gr ?_
 refine S.prune [3,4,7,8] ?_
 refine S.gx [] ?_
 exact D0 hr
def b192_2 (v10 v11 v12:L_II):Bd Int Int:=fun s2=>
 if (decide (s2<(v12.length:Int)))=true then
  if 0≤s2∧s2<(v12.length:Int) then
   bindC (r252 v10 ((v12.getD s2.toNat default).1) 1) fun v13=>
    bindC (r252 v11 ((v12.getD s2.toNat default).1) 1) fun v14=>
     if (decide ((IntKind.i64.wrap (v13.1*v14.2))<(IntKind.i64.wrap (v14.1*v13.2))))=true then
      .out (some 13)
      else .next (IntKind.i64.wrap (s2+1))
   else .out none
  else .out (some 0)
def b192_1 (a0 a1:L_II):Bd Int Int:=fun s1=>
 if (decide (s1<(a0.length:Int)))=true then
  if 0≤s1∧s1<(a0.length:Int) then
   bindC (r249 ((a0.getD s1.toNat default).1)) fun v1=>
    if v1=true→(r190 ((a0.getD s1.toNat default).2) 0 1000).isSome=true then
     bindC (r216 (v1 && ((r190 ((a0.getD s1.toNat default).2) 0 1000).getD default)) 2) fun v2=>
      if ((v2 == 0) && (decide (s1>0)))=true then
       if 0≤IntKind.i64.wrap (s1 - 1)∧IntKind.i64.wrap (s1 - 1)<(a0.length:Int) then
        if 0≤IntKind.i64.wrap (s1 - 1)∧IntKind.i64.wrap (s1 - 1)<(a0.length:Int) then
         bindC (r216 ((decide ((IntKind.i64.wrap (((a0.getD s1.toNat default).1) - ((a0.getD (IntKind.i64.wrap (s1 - 1)).toNat default).1)))>0)) && (decide ((IntKind.i64.wrap (((a0.getD s1.toNat default).2) - ((a0.getD (IntKind.i64.wrap (s1 - 1)).toNat default).2)))≥0))) 9) fun v3=>
          bindC (r216 (decide ((IntKind.i64.wrap (2*(IntKind.i64.wrap (((a0.getD s1.toNat default).2) - ((a0.getD (IntKind.i64.wrap (s1 - 1)).toNat default).2)))))≤(IntKind.i64.wrap (((a0.getD s1.toNat default).1) - ((a0.getD (IntKind.i64.wrap (s1 - 1)).toNat default).1))))) 22) fun v4=>
           bindC (r217 [v3,v4]) fun v5=>
            if (v5 != 0)=true then
             .out (some v5)
             else .next (IntKind.i64.wrap (s1+1))
         else .out none
        else .out none
       else if (v2 != 0)=true then
        .out (some v2)
        else .next (IntKind.i64.wrap (s1+1))
     else .out none
   else .out none
  else .out ((r250 a0).bind fun v10=>
   (r250 a1).bind fun v11=>
    (r251 [v10,v11]).bind fun v12=>
     iterC (b192_2 v10 v11 v12) 1000000000 0)
def r192 (a0 a1:L_II):Option (Int):=
 if (decide ((a0.length:Int)>6))=true then
  some 8
  else iterC (b192_1 a0 a1) 1000000000 0
@[go_sem] def T192:=qT11 qu3 false r192
@[go_sem] def tb192 (k:Nat):=lk [(190,T190.sp),(216,T216.sp),(217,T217.sp),(249,T249.sp),(250,T250.sp),(251,T251.sp),(252,T252.sp)] k
theorem f192:FnFact Tryz.prog 192 T192.sp:=by
 refine vm (tb:=tb192) (.cons f190 (.cons f216 (.cons f217 (.cons f249 (.cons f250 (.cons f251 (.cons f252 .nil))))))) Tryz.func192 Tryz.ntmps192 fun ⟨a0,a1⟩ r hr stop S=> ?_
 rw [uq2,r192] at hr
 refine S.gx [9,20] ?_
 refine gr ?_
 refine iW hr (fun hc hr=>D0 hr) fun hc hr=> ?_
 refine gr ?_
 refine S.li [0,1,20,21,22] [] [] (fun s1=>⟨[(0,.c (.d (encF 2 d_II a0))),(1,.c (.d (encF 2 d_II a1))),(20,.c (.d (encF 2 d_II a0))),sI 21 (a0.length:Int),sI 22 s1],[],[]⟩) (b192_1 a0 a1) (fun q=>q=r) hr rfl ?_
 intro s1 hr
 have z1:=S.ss [0,1,20,21,22] [] []
 unfold b192_1 at hr
 refine S.gw [9,20] ?_
 refine iW1 hr (fun hc hr=> ?_) fun hc hr=> ?_
 ·obtain ⟨hg8,hr⟩:=of_guard1 hr
  obtain ⟨v1,hv1,hr⟩:=of_bind1 hr
  obtain ⟨hg9,hr⟩:=of_guard1 hr
  obtain ⟨v2,hv2,hr⟩:=of_bind1 hr
  try simp only [hv1,hv2,Option.getD_some,Option.isSome_some,true_and,and_assoc]
  repeat (first | refine gG hg9 ?_ | refine gA ?_ | refine gB ?_)
  refine iW1 hr (fun hc hr=> ?_) fun hc hr=>D1 z1 hr
  obtain ⟨hg6,hr⟩:=of_guard1 hr
  obtain ⟨hg7,hr⟩:=of_guard1 hr
  refine gr ?_
  refine S.prune [0,1,8,9,20,21,22] ?_
  refine S.gx [20] ?_
  obtain ⟨v3,hv3,hr⟩:=of_bind1 hr
  obtain ⟨v4,hv4,hr⟩:=of_bind1 hr
  obtain ⟨v5,hv5,hr⟩:=of_bind1 hr
  try simp only [hv3,hv4,hv5,Option.getD_some,Option.isSome_some,true_and,and_assoc]
  repeat (first | refine gA ?_ | refine gB ?_)
  exact D1 z1 hr
 ·refine gr ?_
  have hr:=of_out0 hr
  obtain ⟨v10,hv10,hr⟩:=of_bind0 hr
  obtain ⟨v11,hv11,hr⟩:=of_bind0 hr
  obtain ⟨v12,hv12,hr⟩:=of_bind0 hr
  refine gb hv10 ?_
  refine gb hv11 ?_
  refine gb hv12 ?_
  refine S.li [10,11,85,86,87] [] [(79,79),(81,81),(85,85)] (fun s2=>⟨[sO 10 79,sO 11 81,sO 85 85,sI 86 (v12.length:Int),sI 87 s2],[],[(79,.shared (encF 2 d_II v10)),(81,.shared (encF 2 d_II v11)),(85,.owned (encF 2 d_II v12))]⟩) (b192_2 v10 v11 v12) (fun q=>q=r) hr rfl ?_
  intro s2 hr
  unfold b192_2 at hr
  refine S.gw [9,20] ?_
  refine iW1 hr (fun hc hr=> ?_) fun hc hr=>D0 hr
  obtain ⟨hg15,hr⟩:=of_guard1 hr
  obtain ⟨v13,hv13,hr⟩:=of_bind1 hr
  obtain ⟨v14,hv14,hr⟩:=of_bind1 hr
  refine gb hv13 ?_
  refine gb hv14 ?_
  refine iW1 hr (fun hc hr=> ?_) fun hc hr=>D1 (S.ss [10,11,85,86,87] [] [(79,79),(81,81),(85,85)]) hr
  refine gr ?_
  refine S.prune [] ?_
  refine S.gx [9] ?_
  exact D0 hr
def b135_1 (x0:L_LIIE):Bd (L_II×Int) (Int×Int):=fun s1=>
 if (decide (s1.2<(x0.length:Int)))=true then
  if 0≤s1.2∧s1.2<(x0.length:Int) then
   bindC (r192 (x0.getD s1.2.toNat default) s1.1) fun v3=>
    if (v3 != 0)=true then
     .out (some (s1.2,v3))
     else .next ((x0.getD s1.2.toNat default),IntKind.i64.wrap (s1.2+1))
   else .out none
  else .out (some (0,0))
def r135 (x2 x1:Int) (x3:L_II) (x0:L_LIIE):Option (Int×Int):=
 (r190 x2 1 12).bind fun v1=>
  if (!(!v1))=true→(r190 x1 0 500).isSome=true then
   if ((!v1) || (!((r190 x1 0 500).getD default)))=true then
    some (0,2)
    else (r191 x3).bind fun v2=>
     if (v2.2 != 0)=true then
      some (v2.1,v2.2)
      else if (decide ((x0.length:Int)>4))=true then
       some (0,8)
       else iterC (b135_1 x0) 1000000000 ([],0)
   else none
@[go_sem] def T135:=qT12 qu4 false r135
@[go_sem] def tb135 (k:Nat):=lk [(190,T190.sp),(191,T191.sp),(192,T192.sp)] k
theorem f135:FnFact Tryz.prog 135 T135.sp:=by
 refine vm (tb:=tb135) (.cons f190 (.cons f191 (.cons f192 .nil))) Tryz.func135 Tryz.ntmps135 fun ⟨x2,x1,x3,x0⟩ r hr stop S=> ?_
 rw [uq4,r135] at hr
 refine S.gx [] ?_
 obtain ⟨v1,hv1,hr⟩:=of_bind0 hr
 obtain ⟨hg5,hr⟩:=of_guard0 hr
 try simp only [hv1,oG,oI,true_and,and_assoc]
 repeat (first | refine gG hg5 ?_ | refine gA ?_ | refine gB ?_)
 refine iW hr (fun hc hr=>D0 hr) fun hc hr=> ?_
 obtain ⟨v2,hv2,hr⟩:=of_bind0 hr
 refine gb hv2 ?_
 refine iW hr (fun hc hr=>D0 hr) fun hc hr=> ?_
 refine gr ?_
 refine iW hr (fun hc hr=>D0 hr) fun hc hr=> ?_
 refine gr ?_
 refine S.li [6,35,36,37] [] [] (fun s1=>⟨[(6,.c (.d (encF 2 d_II s1.1))),(35,.c (.d (encF 1 d_LIIE x0))),sI 36 (x0.length:Int),sI 37 s1.2],[],[]⟩) (b135_1 x0) (fun q=>q=r) hr rfl ?_
 intro s1 hr
 unfold b135_1 at hr
 refine S.gx [] ?_
 exact D1 (S.ss [6,35,36,37] [] []) hr
end Go.Proofs.YtnepigpnlnmlmaaGreatDoor

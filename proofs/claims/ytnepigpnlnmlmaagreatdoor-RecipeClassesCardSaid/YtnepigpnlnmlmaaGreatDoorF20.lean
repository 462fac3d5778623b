/- Contracts of functions, written by wip/dec. -/
import Derived.Test.YtnepigpnlnmlmaaGreatDoorF00
import Derived.Test.YtnepigpnlnmlmaaGreatDoorF17
import Derived.Test.YtnepigpnlnmlmaaGreatDoorF19
set_option linter.unusedVariables false
set_option linter.unusedSimpArgs false
set_option linter.constructorNameAsVariable false
set_option maxHeartbeats 4000000
set_option maxRecDepth 20000
namespace Go.Proofs.YtnepigpnlnmlmaaGreatDoor
open Go.Abs
def b15_2 (a0:L_IIIIIHLIE) (s1:Int×Int):Bd Int (Ctl (Int×Int) (Int×Int)):=fun s2=>
 if (decide (s2<(((a0.getD s1.2.toNat default).2.2.2.2.2.2).length:Int)))=true then
  if 0≤s2∧s2<(((a0.getD s1.2.toNat default).2.2.2.2.2.2).length:Int) then
   bindC (r17 (((a0.getD s1.2.toNat default).2.2.2.2.2.2).getD s2.toNat default) 1 200) fun v4=>
    if (!v4)=true then
     .out (some (.out (some (s1.2,2))))
     else if (decide (s2>0))=true→0≤s2∧s2<(((a0.getD s1.2.toNat default).2.2.2.2.2.2).length:Int) then
      if (decide (s2>0))=true→0≤IntKind.i64.wrap (s2 - 1)∧IntKind.i64.wrap (s2 - 1)<(((a0.getD s1.2.toNat default).2.2.2.2.2.2).length:Int) then
       if ((decide (s2>0)) && (decide ((((a0.getD s1.2.toNat default).2.2.2.2.2.2).getD s2.toNat default)≤(((a0.getD s1.2.toNat default).2.2.2.2.2.2).getD (IntKind.i64.wrap (s2 - 1)).toNat default))))=true then
        .out (some (.out (some (s1.2,9))))
        else .next (IntKind.i64.wrap (s2+1))
       else .out none
      else .out none
   else .out none
  else .out (some (.next ((if 61<IntKind.i64.wrap (s1.1*(((a0.getD s1.2.toNat default).2.2.2.2.2.2).length:Int)) then 61 else IntKind.i64.wrap (s1.1*(((a0.getD s1.2.toNat default).2.2.2.2.2.2).length:Int))),IntKind.i64.wrap (s1.2+1))))
def b15_3 (a0:L_IIIIIHLIE) (s1:Int×Int):Bd Int (Ctl (Int×Int) (Int×Int)):=fun s3=>
 if (decide (s3<(((a0.getD s1.2.toNat default).2.2.2.2.2.2).length:Int)))=true then
  if 0≤s3∧s3<(((a0.getD s1.2.toNat default).2.2.2.2.2.2).length:Int) then
   bindC (r17 (((a0.getD s1.2.toNat default).2.2.2.2.2.2).getD s3.toNat default) 1 200) fun v9=>
    if (!v9)=true then
     .out (some (.out (some (s1.2,2))))
     else if (decide (s3>0))=true→0≤s3∧s3<(((a0.getD s1.2.toNat default).2.2.2.2.2.2).length:Int) then
      if (decide (s3>0))=true→0≤IntKind.i64.wrap (s3 - 1)∧IntKind.i64.wrap (s3 - 1)<(((a0.getD s1.2.toNat default).2.2.2.2.2.2).length:Int) then
       if ((decide (s3>0)) && (decide ((((a0.getD s1.2.toNat default).2.2.2.2.2.2).getD s3.toNat default)≤(((a0.getD s1.2.toNat default).2.2.2.2.2.2).getD (IntKind.i64.wrap (s3 - 1)).toNat default))))=true then
        .out (some (.out (some (s1.2,9))))
        else .next (IntKind.i64.wrap (s3+1))
       else .out none
      else .out none
   else .out none
  else .out (some (.next ((if 61<IntKind.i64.wrap (s1.1*(((a0.getD s1.2.toNat default).2.2.2.2.2.2).length:Int)) then 61 else IntKind.i64.wrap (s1.1*(((a0.getD s1.2.toNat default).2.2.2.2.2.2).length:Int))),IntKind.i64.wrap (s1.2+1))))
def b15_4 (a0:L_IIIIIHLIE) (s1:Int×Int):Bd Int (Ctl (Int×Int) (Int×Int)):=fun s4=>
 if (decide (s4<(((a0.getD s1.2.toNat default).2.2.2.2.2.2).length:Int)))=true then
  if 0≤s4∧s4<(((a0.getD s1.2.toNat default).2.2.2.2.2.2).length:Int) then
   bindC (r17 (((a0.getD s1.2.toNat default).2.2.2.2.2.2).getD s4.toNat default) 1 200) fun v17=>
    if (!v17)=true then
     .out (some (.out (some (s1.2,2))))
     else if (decide (s4>0))=true→0≤s4∧s4<(((a0.getD s1.2.toNat default).2.2.2.2.2.2).length:Int) then
      if (decide (s4>0))=true→0≤IntKind.i64.wrap (s4 - 1)∧IntKind.i64.wrap (s4 - 1)<(((a0.getD s1.2.toNat default).2.2.2.2.2.2).length:Int) then
       if ((decide (s4>0)) && (decide ((((a0.getD s1.2.toNat default).2.2.2.2.2.2).getD s4.toNat default)≤(((a0.getD s1.2.toNat default).2.2.2.2.2.2).getD (IntKind.i64.wrap (s4 - 1)).toNat default))))=true then
        .out (some (.out (some (s1.2,9))))
        else .next (IntKind.i64.wrap (s4+1))
       else .out none
      else .out none
   else .out none
  else .out (some (.next ((if 61<IntKind.i64.wrap (s1.1*(((a0.getD s1.2.toNat default).2.2.2.2.2.2).length:Int)) then 61 else IntKind.i64.wrap (s1.1*(((a0.getD s1.2.toNat default).2.2.2.2.2.2).length:Int))),IntKind.i64.wrap (s1.2+1))))
def b15_5 (a0:L_IIIIIHLIE) (s1:Int×Int):Bd Int (Ctl (Int×Int) (Int×Int)):=fun s5=>
 if (decide (s5<(((a0.getD s1.2.toNat default).2.2.2.2.2.2).length:Int)))=true then
  if 0≤s5∧s5<(((a0.getD s1.2.toNat default).2.2.2.2.2.2).length:Int) then
   bindC (r17 (((a0.getD s1.2.toNat default).2.2.2.2.2.2).getD s5.toNat default) 1 200) fun v22=>
    if (!v22)=true then
     .out (some (.out (some (s1.2,2))))
     else if (decide (s5>0))=true→0≤s5∧s5<(((a0.getD s1.2.toNat default).2.2.2.2.2.2).length:Int) then
      if (decide (s5>0))=true→0≤IntKind.i64.wrap (s5 - 1)∧IntKind.i64.wrap (s5 - 1)<(((a0.getD s1.2.toNat default).2.2.2.2.2.2).length:Int) then
       if ((decide (s5>0)) && (decide ((((a0.getD s1.2.toNat default).2.2.2.2.2.2).getD s5.toNat default)≤(((a0.getD s1.2.toNat default).2.2.2.2.2.2).getD (IntKind.i64.wrap (s5 - 1)).toNat default))))=true then
        .out (some (.out (some (s1.2,9))))
        else .next (IntKind.i64.wrap (s5+1))
       else .out none
      else .out none
   else .out none
  else .out (some (.next ((if 61<IntKind.i64.wrap (s1.1*(((a0.getD s1.2.toNat default).2.2.2.2.2.2).length:Int)) then 61 else IntKind.i64.wrap (s1.1*(((a0.getD s1.2.toNat default).2.2.2.2.2.2).length:Int))),IntKind.i64.wrap (s1.2+1))))
def b15_1 (a0:L_IIIIIHLIE):Bd (Int×Int) (Int×Int):=fun s1=>
 if (decide (s1.2<(a0.length:Int)))=true then
  if 0≤s1.2∧s1.2<(a0.length:Int) then
   if ((((a0.getD s1.2.toNat default).2.2.2.1) != 0) || (((a0.getD s1.2.toNat default).1) == 5))=true then
    .out (some (s1.2,20))
    else if ((((a0.getD s1.2.toNat default).2.2.2.2.2.2).length:Int) == 0)=true then
     .out (some (s1.2,10))
     else bindC (r74 ((a0.getD s1.2.toNat default).1) ((a0.getD s1.2.toNat default).2.1) ((a0.getD s1.2.toNat default).2.2.1) ((a0.getD s1.2.toNat default).2.2.2.1) ((a0.getD s1.2.toNat default).2.2.2.2.1) ((a0.getD s1.2.toNat default).2.2.2.2.2.1) ((a0.getD s1.2.toNat default).2.2.2.2.2.2) 0) fun v1=>
      bindC (r17 v1.1 0 5) fun v2=>
       if (!v2)=true then
        .out (some (s1.2,15))
        else bindC (r131 v1.1) fun v3=>
         if (((((!v3.1) && (v1.2.1 != 0)) || ((!v3.2.1) && (v1.2.2.1 != 0))) || ((!v3.2.2.1) && (v1.2.2.2.2.1 != 0))) || ((!v3.2.2.2) && (decide (((hU v1.2.2.2.2.2).length:Int)>0))))=true then
          .out (some (s1.2,3))
          else if v3.2.2.2=true then
           if v3.1=true→(r17 v1.2.1 1 10000).isSome=true then
            if ((!(v3.1 && (!((r17 v1.2.1 1 10000).getD default)))) && v3.2.1)=true→(r17 v1.2.2.1 0 3).isSome=true then
             if (!((v3.1 && (!((r17 v1.2.1 1 10000).getD default))) || (v3.2.1 && (!((r17 v1.2.2.1 0 3).getD default)))))=true→(r17 v1.2.2.2.1 1 10).isSome=true then
              if ((!(((v3.1 && (!((r17 v1.2.1 1 10000).getD default))) || (v3.2.1 && (!((r17 v1.2.2.1 0 3).getD default)))) || (!((r17 v1.2.2.2.1 1 10).getD default)))) && v3.2.2.1)=true→(r88 v1.2.2.2.2.1).isSome=true then
               if ((((v3.1 && (!((r17 v1.2.1 1 10000).getD default))) || (v3.2.1 && (!((r17 v1.2.2.1 0 3).getD default)))) || (!((r17 v1.2.2.2.1 1 10).getD default))) || (v3.2.2.1 && (!((r88 v1.2.2.2.2.1).getD default))))=true then
                .out (some (s1.2,2))
                else if (!v3.2.2.2)=true then
                 (iterC (b15_2 a0 s1) 1000000000 0).getD (.out none)
                 else bindC (r132 7 (hU v1.2.2.2.2.2) 1) fun v8=>
                  if (v8.2 != 0)=true then
                   .out (some (s1.2,v8.2))
                   else (iterC (b15_3 a0 s1) 1000000000 0).getD (.out none)
               else .out none
              else .out none
             else .out none
            else .out none
           else if v3.1=true→(r17 v1.2.1 1 10000).isSome=true then
            if ((!(v3.1 && (!((r17 v1.2.1 1 10000).getD default)))) && v3.2.1)=true→(r17 v1.2.2.1 0 3).isSome=true then
             if (!((v3.1 && (!((r17 v1.2.1 1 10000).getD default))) || (v3.2.1 && (!((r17 v1.2.2.1 0 3).getD default)))))=true→(r17 v1.2.2.2.1 1 200).isSome=true then
              if ((!(((v3.1 && (!((r17 v1.2.1 1 10000).getD default))) || (v3.2.1 && (!((r17 v1.2.2.1 0 3).getD default)))) || (!((r17 v1.2.2.2.1 1 200).getD default)))) && v3.2.2.1)=true→(r88 v1.2.2.2.2.1).isSome=true then
               if ((((v3.1 && (!((r17 v1.2.1 1 10000).getD default))) || (v3.2.1 && (!((r17 v1.2.2.1 0 3).getD default)))) || (!((r17 v1.2.2.2.1 1 200).getD default))) || (v3.2.2.1 && (!((r88 v1.2.2.2.2.1).getD default))))=true then
                .out (some (s1.2,2))
                else if (!v3.2.2.2)=true then
                 (iterC (b15_4 a0 s1) 1000000000 0).getD (.out none)
                 else bindC (r132 7 (hU v1.2.2.2.2.2) 1) fun v21=>
                  if (v21.2 != 0)=true then
                   .out (some (s1.2,v21.2))
                   else (iterC (b15_5 a0 s1) 1000000000 0).getD (.out none)
               else .out none
              else .out none
             else .out none
            else .out none
   else .out none
  else .out (if (decide (s1.1>60))=true then
   some (0,8)
   else if 0≤IntKind.i64.wrap ((a0.length:Int) - 1)∧IntKind.i64.wrap ((a0.length:Int) - 1)<(a0.length:Int) then
    (r75 ((a0.getD (IntKind.i64.wrap ((a0.length:Int) - 1)).toNat default).1) ((a0.getD (IntKind.i64.wrap ((a0.length:Int) - 1)).toNat default).2.1) ((a0.getD (IntKind.i64.wrap ((a0.length:Int) - 1)).toNat default).2.2.1) ((a0.getD (IntKind.i64.wrap ((a0.length:Int) - 1)).toNat default).2.2.2.1) ((a0.getD (IntKind.i64.wrap ((a0.length:Int) - 1)).toNat default).2.2.2.2.1) ((a0.getD (IntKind.i64.wrap ((a0.length:Int) - 1)).toNat default).2.2.2.2.2.1)).bind fun v31=>
     if (!v31)=true then
      some (0,20)
      else some (0,0)
    else none)
def r15 (a0:L_IIIIIHLIE):Option (Int×Int):=
 if ((a0.length:Int) == 0)=true then
  some (0,10)
  else if (decide ((a0.length:Int)>12))=true then
   some (0,8)
   else iterC (b15_1 a0) 1000000000 (1,0)
@[go_sem] def T15:=qT75 qu4 false r15
@[go_sem] def tb15 (k:Nat):=lk [(17,T17.sp),(74,T74.sp),(75,T75.sp),(88,T88.sp),(131,T131.sp),(132,(T132 7).sp)] k
theorem tb15_ok:FnsOk Tryz.prog tb15:= .cons f17 (.cons f74 (.cons f75 (.cons f88 (.cons f131 (.cons (f132 7) .nil)))))
theorem f15:FnFact Tryz.prog 15 T15.sp:=by
 refine vm (tb:=tb15) (.cons f17 (.cons f74 (.cons f75 (.cons f88 (.cons f131 (.cons (f132 7) .nil)))))) Tryz.func15 Tryz.ntmps15 fun a0 r hr stop S=> ?_
 rw [uq1,r15] at hr
 refine S.gx [14,23] ?_
 refine gr ?_
 refine iW hr (fun hc hr=>D0 hr) fun hc hr=> ?_
 refine gr ?_
 refine iW hr (fun hc hr=>D0 hr) fun hc hr=> ?_
 refine gr ?_
 refine S.li [0,4,5] [] [] (fun s1=>⟨[(0,.c (.d (encF 7 d_IIIIIHLIE a0))),sI 4 s1.1,sI 5 s1.2],[],[]⟩) (b15_1 a0) (fun q=>q=r) hr rfl ?_
 intro s1 hr
 have z2:=S.ss [0,4,5] [] []
 have z1:=S.ss [0,4,5,6,8] [(6,6)] []
 unfold b15_1 at hr
 refine S.gw [14,23] ?_
 refine iW1 hr (fun hc hr=> ?_) fun hc hr=>D0 hr
 obtain ⟨hg30,hr⟩:=of_guard1 hr
 repeat (first | refine gA ?_ | refine gB ?_)
 refine iW1 hr (fun hc hr=>D0 hr) fun hc hr=> ?_
 refine gr ?_
 refine iW1 hr (fun hc hr=>D0 hr) fun hc hr=> ?_
 refine gr ?_
 refine S.inl 2 [0,4,5,6] [] Tryz.func73 (by decide) rfl Tryz.ntmps73 (fun cx e=>drawn_ok ty_ok tb15_ok cx e) (some 43) rfl rfl rfl rfl (nL rfl) (nL rfl) ?_
 refine gs ?_
 obtain ⟨v1,hv1,hr⟩:=of_bind1 hr
 refine gb hv1 ?_
 intro stop1 S1
 refine S1.gx [5,6,10,11] ?_
 obtain ⟨v2,hv2,hr⟩:=of_bind1 hr
 refine gb hv2 ?_
 refine iW1 hr (fun hc hr=> ?_) fun hc hr=> ?_
 ·refine S.gx [14,23] ?_
  exact D0 hr
 ·obtain ⟨v3,hv3,hr⟩:=of_bind1 hr
  try simp only [hv3,oG,oI,true_and,and_assoc]
  repeat (first | refine gA ?_ | refine gB ?_)
  refine iW1 hr (fun hc hr=> ?_) fun hc hr=> ?_
  ·refine gr ?_
   refine S1.prune [] ?_
   refine S1.gw [6,10,11] ?_
   refine S.gx [14,23] ?_
   exact D0 hr
  ·refine gr ?_
   refine S1.prune [1,2,5] ?_
   refine S1.gw [5,10,11] ?_
   refine iW1 hr (fun hc hr=> ?_) fun hc hr=> ?_
   ·obtain ⟨hg13,hr⟩:=of_guard1 hr
    obtain ⟨hg14,hr⟩:=of_guard1 hr
    obtain ⟨hg15,hr⟩:=of_guard1 hr
    obtain ⟨hg16,hr⟩:=of_guard1 hr
    repeat (first | refine gG hg13 ?_ | refine gG hg14 ?_ | refine gG hg15 ?_ | refine gG hg16 ?_ | refine gA ?_ | refine gB ?_)
    refine iW1 hr (fun hc hr=> ?_) fun hc hr=> ?_
    ·refine gr ?_
     refine S1.prune [] ?_
     refine S1.gw [5,6,11] ?_
     refine S.gx [14,23] ?_
     exact D0 hr
    ·refine gr ?_
     refine S1.prune [1,2,5] ?_
     refine S1.gw [5,6,10] ?_
     refine iW1 hr (fun hc hr=> ?_) fun hc hr=> ?_
     ·refine S.gw [14,23] ?_
      obtain ⟨q2,hq,hr⟩:=of_iter1 hr
      refine S.li [0,4,5,6,8] [(6,6)] [] (fun s2=>⟨[(0,.c (.d (encF 7 d_IIIIIHLIE a0))),sI 4 s1.1,sI 5 s1.2,sR 6 6,sI 8 s2],[(6,[iC ((a0.getD s1.2.toNat default).1),iC ((a0.getD s1.2.toNat default).2.1),iC ((a0.getD s1.2.toNat default).2.2.1),iC ((a0.getD s1.2.toNat default).2.2.2.1),iC ((a0.getD s1.2.toNat default).2.2.2.2.1),.d (hE ((a0.getD s1.2.toNat default).2.2.2.2.2.1)),.d (encF 1 d_I ((a0.getD s1.2.toNat default).2.2.2.2.2.2))])],[]⟩) (b15_2 a0 s1) _ hq hr ?_
      intro s2 hr
      unfold b15_2 at hr
      refine S.gw [14,23] ?_
      refine iW1 hr (fun hc hr=> ?_) fun hc hr=> ?_
      ·obtain ⟨hg7,hr⟩:=of_guard1 hr
       obtain ⟨v4,hv4,hr⟩:=of_bind1 hr
       refine gb hv4 ?_
       refine iW1 hr (fun hc hr=> ?_) fun hc hr=> ?_
       ·refine gr ?_
        replace hr:=goodC_out hr
        exact D0 hr
       ·obtain ⟨hg5,hr⟩:=of_guard1 hr
        obtain ⟨hg6,hr⟩:=of_guard1 hr
        repeat (first | refine gG hg5 ?_ | refine gG hg6 ?_ | refine gA ?_ | refine gB ?_)
        refine iW1 hr (fun hc hr=> ?_) fun hc hr=>D1 z1 hr
        refine gr ?_
        refine S.prune [5] ?_
        refine S.gw [14] ?_
        replace hr:=goodC_out hr
        exact D0 hr
      ·refine gr ?_
       replace hr:=goodC_out hr
       exact D1 z2 hr
     ·obtain ⟨v8,hv8,hr⟩:=of_bind1 hr
      refine gb hv8 ?_
      refine S.gw [14,23] ?_
      refine iW1 hr (fun hc hr=>D0 hr) fun hc hr=> ?_
      refine gr ?_
      obtain ⟨q3,hq,hr⟩:=of_iter1 hr
      refine S.li [0,4,5,6,8] [(6,6)] [] (fun s3=>⟨[(0,.c (.d (encF 7 d_IIIIIHLIE a0))),sI 4 s1.1,sI 5 s1.2,sR 6 6,sI 8 s3],[(6,[iC ((a0.getD s1.2.toNat default).1),iC ((a0.getD s1.2.toNat default).2.1),iC ((a0.getD s1.2.toNat default).2.2.1),iC ((a0.getD s1.2.toNat default).2.2.2.1),iC ((a0.getD s1.2.toNat default).2.2.2.2.1),.d (hE ((a0.getD s1.2.toNat default).2.2.2.2.2.1)),.d (encF 1 d_I ((a0.getD s1.2.toNat default).2.2.2.2.2.2))])],[]⟩) (b15_3 a0 s1) _ hq hr ?_
      intro s3 hr
      unfold b15_3 at hr
      refine S.gw [14,23] ?_
      refine iW1 hr (fun hc hr=> ?_) fun hc hr=> ?_
      ·obtain ⟨hg12,hr⟩:=of_guard1 hr
       obtain ⟨v9,hv9,hr⟩:=of_bind1 hr
       refine gb hv9 ?_
       refine iW1 hr (fun hc hr=> ?_) fun hc hr=> ?_
       ·refine gr ?_
        replace hr:=goodC_out hr
        exact D0 hr
       ·obtain ⟨hg10,hr⟩:=of_guard1 hr
        obtain ⟨hg11,hr⟩:=of_guard1 hr
        repeat (first | refine gG hg10 ?_ | refine gG hg11 ?_ | refine gA ?_ | refine gB ?_)
        refine iW1 hr (fun hc hr=> ?_) fun hc hr=>D1 z1 hr
        refine gr ?_
        refine S.prune [5] ?_
        refine S.gw [14] ?_
        replace hr:=goodC_out hr
        exact D0 hr
      ·refine gr ?_
       replace hr:=goodC_out hr
       exact D1 z2 hr
   ·obtain ⟨hg26,hr⟩:=of_guard1 hr
    obtain ⟨hg27,hr⟩:=of_guard1 hr
    obtain ⟨hg28,hr⟩:=of_guard1 hr
    obtain ⟨hg29,hr⟩:=of_guard1 hr
    repeat (first | refine gG hg26 ?_ | refine gG hg27 ?_ | refine gG hg28 ?_ | refine gG hg29 ?_ | refine gA ?_ | refine gB ?_)
    refine iW1 hr (fun hc hr=> ?_) fun hc hr=> ?_
    ·refine gr ?_
     refine S1.prune [] ?_
     refine S1.gw [5,6,11] ?_
     refine S.gx [14,23] ?_
     exact D0 hr
    ·refine gr ?_
     refine S1.prune [1,2,5] ?_
     refine S1.gw [5,6,10] ?_
     refine iW1 hr (fun hc hr=> ?_) fun hc hr=> ?_
     ·refine S.gw [14,23] ?_
      obtain ⟨q4,hq,hr⟩:=of_iter1 hr
      refine S.li [0,4,5,6,8] [(6,6)] [] (fun s4=>⟨[(0,.c (.d (encF 7 d_IIIIIHLIE a0))),sI 4 s1.1,sI 5 s1.2,sR 6 6,sI 8 s4],[(6,[iC ((a0.getD s1.2.toNat default).1),iC ((a0.getD s1.2.toNat default).2.1),iC ((a0.getD s1.2.toNat default).2.2.1),iC ((a0.getD s1.2.toNat default).2.2.2.1),iC ((a0.getD s1.2.toNat default).2.2.2.2.1),.d (hE ((a0.getD s1.2.toNat default).2.2.2.2.2.1)),.d (encF 1 d_I ((a0.getD s1.2.toNat default).2.2.2.2.2.2))])],[]⟩) (b15_4 a0 s1) _ hq hr ?_
      intro s4 hr
      unfold b15_4 at hr
      refine S.gw [14,23] ?_
      refine iW1 hr (fun hc hr=> ?_) fun hc hr=> ?_
      ·obtain ⟨hg20,hr⟩:=of_guard1 hr
       obtain ⟨v17,hv17,hr⟩:=of_bind1 hr
       refine gb hv17 ?_
       refine iW1 hr (fun hc hr=> ?_) fun hc hr=> ?_
       ·refine gr ?_
        replace hr:=goodC_out hr
        exact D0 hr
       ·obtain ⟨hg18,hr⟩:=of_guard1 hr
        obtain ⟨hg19,hr⟩:=of_guard1 hr
        repeat (first | refine gG hg18 ?_ | refine gG hg19 ?_ | refine gA ?_ | refine gB ?_)
        refine iW1 hr (fun hc hr=> ?_) fun hc hr=>D1 z1 hr
        refine gr ?_
        refine S.prune [5] ?_
        refine S.gw [14] ?_
        replace hr:=goodC_out hr
        exact D0 hr
      ·refine gr ?_
       replace hr:=goodC_out hr
       exact D1 z2 hr
     ·obtain ⟨v21,hv21,hr⟩:=of_bind1 hr
      refine gb hv21 ?_
      refine S.gw [14,23] ?_
      refine iW1 hr (fun hc hr=>D0 hr) fun hc hr=> ?_
      refine gr ?_
      obtain ⟨q5,hq,hr⟩:=of_iter1 hr
      refine S.li [0,4,5,6,8] [(6,6)] [] (fun s5=>⟨[(0,.c (.d (encF 7 d_IIIIIHLIE a0))),sI 4 s1.1,sI 5 s1.2,sR 6 6,sI 8 s5],[(6,[iC ((a0.getD s1.2.toNat default).1),iC ((a0.getD s1.2.toNat default).2.1),iC ((a0.getD s1.2.toNat default).2.2.1),iC ((a0.getD s1.2.toNat default).2.2.2.1),iC ((a0.getD s1.2.toNat default).2.2.2.2.1),.d (hE ((a0.getD s1.2.toNat default).2.2.2.2.2.1)),.d (encF 1 d_I ((a0.getD s1.2.toNat default).2.2.2.2.2.2))])],[]⟩) (b15_5 a0 s1) _ hq hr ?_
      intro s5 hr
      unfold b15_5 at hr
      refine S.gw [14,23] ?_
      refine iW1 hr (fun hc hr=> ?_) fun hc hr=> ?_
      ·obtain ⟨hg25,hr⟩:=of_guard1 hr
       obtain ⟨v22,hv22,hr⟩:=of_bind1 hr
       refine gb hv22 ?_
       refine iW1 hr (fun hc hr=> ?_) fun hc hr=> ?_
       ·refine gr ?_
        replace hr:=goodC_out hr
        exact D0 hr
       ·obtain ⟨hg23,hr⟩:=of_guard1 hr
        obtain ⟨hg24,hr⟩:=of_guard1 hr
        repeat (first | refine gG hg23 ?_ | refine gG hg24 ?_ | refine gA ?_ | refine gB ?_)
        refine iW1 hr (fun hc hr=> ?_) fun hc hr=>D1 z1 hr
        refine gr ?_
        refine S.prune [5] ?_
        refine S.gw [14] ?_
        replace hr:=goodC_out hr
        exact D0 hr
      ·refine gr ?_
       replace hr:=goodC_out hr
       exact D1 z2 hr
end Go.Proofs.YtnepigpnlnmlmaaGreatDoor

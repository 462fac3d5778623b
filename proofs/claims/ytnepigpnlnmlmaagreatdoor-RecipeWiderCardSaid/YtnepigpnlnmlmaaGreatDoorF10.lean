/- Contracts of functions, written by wip/dec. -/
import Derived.Test.YtnepigpnlnmlmaaGreatDoorF00
import Derived.Test.YtnepigpnlnmlmaaGreatDoorF09
import Derived.Test.YtnepigpnlnmlmaaGreatDoorF01
import Derived.Test.YtnepigpnlnmlmaaGreatDoorF03
import Derived.Test.YtnepigpnlnmlmaaGreatDoorF04
import Derived.Test.YtnepigpnlnmlmaaGreatDoorF05
import Derived.Test.YtnepigpnlnmlmaaGreatDoorF06
set_option linter.unusedVariables false
set_option linter.unusedSimpArgs false
set_option linter.constructorNameAsVariable false
set_option maxHeartbeats 4000000
set_option maxRecDepth 20000
namespace Go.Proofs.YtnepigpnlnmlmaaGreatDoor
open Tryz Go.dR
section
variable {β:Type} [Inhabited β] (u:β->List RV) (al:Bool)
def aq3 (a0:L_S) (a1:ByteArray):List Arg:=[.c (aj 1 d_S a0),.c (.str a1)]
def asN:List Arg->L_S×ByteArray
 | [.c c0,.c c1]=>(aN g_S c0,aes c1)
 | _=>default
def at7 (r:L_S->ByteArray->Option β):=mkT (u2 aq3) asN (u2 r) u al
attribute [go_sem] aq3 asN at7
end
def aqW (a0:L_S) (a1:ByteArray):Option (ByteArray):=
 XK a0 a1
@[go_sem] def ayQ:=at7 agA false aqW
theorem f125:aF prog 125 ayQ.sp:=⟨⟨Tryz.f125,func125,by decide,rfl⟩,acW (λ_=>rfl) (λ_=>rfl) (λ_=>rfl) rfl⟩
def ae3 (a0:aA):Bd ((List (ByteArray))×Int) ByteArray:=λs1=>
 if (decide (s1.2<(a0.length:Int)))=true then
  if 0<=s1.2/\s1.2<(a0.length:Int) then
   aW (aco ((a0.getD s1.2.toNat default).1)) λv1=>
    if v1.size+(#[32]:Array UInt8).size<=9223372036854775807 then
     aW (aco ((a0.getD s1.2.toNat default).2)) λv2=>
      if v1.size+(#[32]:Array UInt8).size+v2.size<=9223372036854775807 then
       if (s1.1.length+1)*16<=140737488355328/\s1.1.length+1<=9223372036854775807 then
        .next (s1.1++[(v1++(⟨#[32]⟩:ByteArray))++v2],IntKind.i64.wrap (s1.2+1))
        else .out none
       else .out none
     else .out none
   else .out none
  else .out ((aqW s1.1 (⟨#[59]⟩:ByteArray)).bind λv7=>
   some v7)
def r62 (a0:aA):Option (ByteArray):=
 aK (ae3 a0) 1000000000 ([],0)
@[go_sem] def T62:=qT5 agA false r62
@[go_sem] def aB4 (k:Nat):=lk [(124,amK.sp),(125,ayQ.sp)] k
theorem f62:aF prog 62 T62.sp:=by
 refine vm (tb:=aB4) (.cons f124 (.cons f125 .nil)) func62 ntmps62 λa0 r hr stop S=> ?_
 rw [sQ,r62] at hr
 refine S.gx [] ?_
 refine gr ?_
 refine S.Ug 3 1000300 1 rfl rfl ?_
 refine S.li [3,6,7,8] [] [(1000300,1000300)] (λs1=>⟨[sO 3 1000300,(6,.c (.d (aj 2 aQ a0))),sI 7 (a0.length:Int),sI 8 s1.2],[],[(1000300,.owned (aj 1 d_S s1.1))]⟩) (ae3 a0) (λq=>q=r) hr rfl ?_
 intro s1 hr
 unfold ae3 at hr
 refine S.gx [] ?_
 exact D1 (S.ss [3,6,7,8] [] [(22,1000300)]) hr
def ae9 (a0 a1:aA):Bd Int Bool:=λs1=>
 if (decide (s1<(a0.length:Int)))=true then
  if 0<=s1/\s1<(a0.length:Int) then
   if 0<=s1/\s1<(a1.length:Int) then
    if (!(((a0.getD s1.toNat default).1 == (a1.getD s1.toNat default).1) && ((a0.getD s1.toNat default).2 == (a1.getD s1.toNat default).2)))=true then
     .out (some false)
     else .next (IntKind.i64.wrap (s1+1))
    else .out none
   else .out none
  else .out (some true)
def r30 (a0 a1:aA):Option (Bool):=
 if ((a0.length:Int) != (a1.length:Int))=true then
  some false
  else aK (ae9 a0 a1) 1000000000 0
@[go_sem] def T30:=agG qV false r30
theorem f30:aF prog 30 T30.sp:=by
 refine vm .nil func30 ntmps30 λ⟨a0,a1⟩ r hr stop S=> ?_
 rw [DV,r30] at hr
 refine S.gx [] ?_
 refine gr ?_
 refine iW hr (λhc hr=>D0 hr) λhc hr=> ?_
 refine gr ?_
 refine S.li [0,1,5] [] [] (λs1=>⟨[(0,.c (.d (aj 2 aQ a0))),(1,.c (.d (aj 2 aQ a1))),sI 5 s1],[],[]⟩) (ae9 a0 a1) (λq=>q=r) hr rfl ?_
 intro s1 hr
 unfold ae9 at hr
 refine S.gx [] ?_
 exact D1 (S.ss [0,1,5] [] []) hr
def r9:Option (Bool):=
 (r58).bind λv1=>
  (r59).bind λv2=>
   (r57 v1.1 v1.2.1 v1.2.2.1 v1.2.2.2.1 v1.2.2.2.2.1 v1.2.2.2.2.2.1 v1.2.2.2.2.2.2.1 v1.2.2.2.2.2.2.2.1 v1.2.2.2.2.2.2.2.2 v2).bind λv3=>
    (r60).bind λv4=>
     (r25 v3.1).bind λv5=>
      (r24 v4.1 v4.2.1 v4.2.2.1 v4.2.2.2.1 v4.2.2.2.2.1 v4.2.2.2.2.2.1 v4.2.2.2.2.2.2.1 v4.2.2.2.2.2.2.2.1 v4.2.2.2.2.2.2.2.2.1 v4.2.2.2.2.2.2.2.2.2.1 v4.2.2.2.2.2.2.2.2.2.2.1 v4.2.2.2.2.2.2.2.2.2.2.2.1 v4.2.2.2.2.2.2.2.2.2.2.2.2.1 v4.2.2.2.2.2.2.2.2.2.2.2.2.2.1 v4.2.2.2.2.2.2.2.2.2.2.2.2.2.2.1 v4.2.2.2.2.2.2.2.2.2.2.2.2.2.2.2.1 v4.2.2.2.2.2.2.2.2.2.2.2.2.2.2.2.2.1 v4.2.2.2.2.2.2.2.2.2.2.2.2.2.2.2.2.2.1 v4.2.2.2.2.2.2.2.2.2.2.2.2.2.2.2.2.2.2 v5).bind λv6=>
       (r52 v4.1 v4.2.1 v4.2.2.1 v4.2.2.2.1 v4.2.2.2.2.1 v4.2.2.2.2.2.1 v4.2.2.2.2.2.2.1 v4.2.2.2.2.2.2.2.1 v4.2.2.2.2.2.2.2.2.1 v4.2.2.2.2.2.2.2.2.2.1 v4.2.2.2.2.2.2.2.2.2.2.1 v4.2.2.2.2.2.2.2.2.2.2.2.1 v4.2.2.2.2.2.2.2.2.2.2.2.2.1 v4.2.2.2.2.2.2.2.2.2.2.2.2.2.1 v4.2.2.2.2.2.2.2.2.2.2.2.2.2.2.1 v4.2.2.2.2.2.2.2.2.2.2.2.2.2.2.2.1 v4.2.2.2.2.2.2.2.2.2.2.2.2.2.2.2.2.1 v4.2.2.2.2.2.2.2.2.2.2.2.2.2.2.2.2.2.1 v4.2.2.2.2.2.2.2.2.2.2.2.2.2.2.2.2.2.2 400).bind λv7=>
        if 1*64<=140737488355328/\1<=9223372036854775807 then
         if (1+1)*64<=140737488355328/\1+1<=9223372036854775807 then
          if (v3.2 == 0)=true->(r62 v3.1).isSome=true then
           if (((v3.2 == 0) && (decide (((r62 v3.1).getD default)=(⟨#[52,48,48,32,48,59,52,48,48,32,48,59,48,32,49,59,48,32,49,59,48,32,49]⟩:ByteArray)))) && (v6.2 == 0))=true->(r30 v6.1 [(800,800),(200,200),(200,200)]).isSome=true then
            if (((((((v3.2 == 0) && (decide (((r62 v3.1).getD default)=(⟨#[52,48,48,32,48,59,52,48,48,32,48,59,48,32,49,59,48,32,49,59,48,32,49]⟩:ByteArray)))) && (v6.2 == 0)) && ((r30 v6.1 [(800,800),(200,200),(200,200)]).getD default)) && (v7.2 == 0)) && (v7.1 == 2)) && ((([(3,400,0,5,650,Hl.nil)]++[(2,0,1,3,0,Hl.nil)]).length:Int) == 2))=true->0<=0/\0<(([(3,400,0,5,650,Hl.nil)]++[(2,0,1,3,0,Hl.nil)]).length:Int) then
             some ((((((((v3.2 == 0) && (decide (((r62 v3.1).getD default)=(⟨#[52,48,48,32,48,59,52,48,48,32,48,59,48,32,49,59,48,32,49,59,48,32,49]⟩:ByteArray)))) && (v6.2 == 0)) && ((r30 v6.1 [(800,800),(200,200),(200,200)]).getD default)) && (v7.2 == 0)) && (v7.1 == 2)) && ((([(3,400,0,5,650,Hl.nil)]++[(2,0,1,3,0,Hl.nil)]).length:Int) == 2)) && (((([(3,400,0,5,650,Hl.nil)]++[(2,0,1,3,0,Hl.nil)]).getD 0 default).1) == 3))
             else none
            else none
           else none
          else none
         else none
@[go_sem] def T9:=qT0 qV false r9
@[go_sem] def tb9 (k:Nat):=lk [(24,T24.sp),(25,T25.sp),(30,T30.sp),(52,T52.sp),(57,T57.sp),(58,T58.sp),(59,T59.sp),(60,T60.sp),(62,T62.sp),(123,amL.sp),(241,ax2.sp),(288,axF.sp),(308,axu.sp)] k
theorem iq:fM prog tb9:= .cons f24 (.cons f25 (.cons f30 (.cons f52 (.cons f57 (.cons f58 (.cons f59 (.cons f60 (.cons f62 (.cons f123 (.cons f241 (.cons f288 (.cons f308 .nil))))))))))))
theorem aaz {α:Type} [Inhabited α] {s s':Nat} {f:α->List D} {a0 b:α} {c:List D} (h:jd c (f b)):Go.dR.Can s f [a0,b] (D.cat (aj s f [a0]) (D.ofList s' [c]))=True:=mQ (l:=[a0]) (r:=[b]) (of_eq_true (wZ _)) (of_eq_true (gQ (by simp only [List.map_cons,List.map_nil,pY]; exact ⟨h,trivial⟩)))
theorem aay {α:Type} [Inhabited α] {s s':Nat} {f:α->List D} {a0 a1 b:α} {c:List D} (h:jd c (f b)):Go.dR.Can s f [a0,a1,b] (D.cat (aj s f [a0,a1]) (D.ofList s' [c]))=True:=mQ (l:=[a0,a1]) (r:=[b]) (of_eq_true (wZ _)) (of_eq_true (gQ (by simp only [List.map_cons,List.map_nil,pY]; exact ⟨h,trivial⟩)))
theorem aax {α:Type} [Inhabited α] {s s':Nat} {f:α->List D} {a0 a1 a2 b:α} {c:List D} (h:jd c (f b)):Go.dR.Can s f [a0,a1,a2,b] (D.cat (aj s f [a0,a1,a2]) (D.ofList s' [c]))=True:=mQ (l:=[a0,a1,a2]) (r:=[b]) (of_eq_true (wZ _)) (of_eq_true (gQ (by simp only [List.map_cons,List.map_nil,pY]; exact ⟨h,trivial⟩)))
theorem aaw {α:Type} [Inhabited α] {s s':Nat} {f:α->List D} {a0 a1 a2 a3 b:α} {c:List D} (h:jd c (f b)):Go.dR.Can s f [a0,a1,a2,a3,b] (D.cat (aj s f [a0,a1,a2,a3]) (D.ofList s' [c]))=True:=mQ (l:=[a0,a1,a2,a3]) (r:=[b]) (of_eq_true (wZ _)) (of_eq_true (gQ (by simp only [List.map_cons,List.map_nil,pY]; exact ⟨h,trivial⟩)))
theorem aav {α:Type} [Inhabited α] {s s':Nat} {f:α->List D} {a0 a1 a2 a3 a4 b:α} {c:List D} (h:jd c (f b)):Go.dR.Can s f [a0,a1,a2,a3,a4,b] (D.cat (aj s f [a0,a1,a2,a3,a4]) (D.ofList s' [c]))=True:=mQ (l:=[a0,a1,a2,a3,a4]) (r:=[b]) (of_eq_true (wZ _)) (of_eq_true (gQ (by simp only [List.map_cons,List.map_nil,pY]; exact ⟨h,trivial⟩)))
theorem aeL {α:Type} [Inhabited α] {s s':Nat} {f:α->List D} {a0 b:α} {c:List D} {x:D} (hx:Go.dR.Can s f [a0] x) (h:jd c (f b)):Go.dR.Can s f [a0,b] (D.cat x (D.ofList s' [c]))=True:=mQ (l:=[a0]) (r:=[b]) hx (of_eq_true (gQ (by simp only [List.map_cons,List.map_nil,pY]; exact ⟨h,trivial⟩)))
theorem aeK {α:Type} [Inhabited α] {s s':Nat} {f:α->List D} {a0 a1 b:α} {c:List D} {x:D} (hx:Go.dR.Can s f [a0,a1] x) (h:jd c (f b)):Go.dR.Can s f [a0,a1,b] (D.cat x (D.ofList s' [c]))=True:=mQ (l:=[a0,a1]) (r:=[b]) hx (of_eq_true (gQ (by simp only [List.map_cons,List.map_nil,pY]; exact ⟨h,trivial⟩)))
theorem aeJ {α:Type} [Inhabited α] {s s':Nat} {f:α->List D} {a0 a1 a2 b:α} {c:List D} {x:D} (hx:Go.dR.Can s f [a0,a1,a2] x) (h:jd c (f b)):Go.dR.Can s f [a0,a1,a2,b] (D.cat x (D.ofList s' [c]))=True:=mQ (l:=[a0,a1,a2]) (r:=[b]) hx (of_eq_true (gQ (by simp only [List.map_cons,List.map_nil,pY]; exact ⟨h,trivial⟩)))
theorem aeI {α:Type} [Inhabited α] {s s':Nat} {f:α->List D} {a0 a1 a2 a3 b:α} {c:List D} {x:D} (hx:Go.dR.Can s f [a0,a1,a2,a3] x) (h:jd c (f b)):Go.dR.Can s f [a0,a1,a2,a3,b] (D.cat x (D.ofList s' [c]))=True:=mQ (l:=[a0,a1,a2,a3]) (r:=[b]) hx (of_eq_true (gQ (by simp only [List.map_cons,List.map_nil,pY]; exact ⟨h,trivial⟩)))
theorem aeH {α:Type} [Inhabited α] {s s':Nat} {f:α->List D} {a0 a1 a2 a3 a4 b:α} {c:List D} {x:D} (hx:Go.dR.Can s f [a0,a1,a2,a3,a4] x) (h:jd c (f b)):Go.dR.Can s f [a0,a1,a2,a3,a4,b] (D.cat x (D.ofList s' [c]))=True:=mQ (l:=[a0,a1,a2,a3,a4]) (r:=[b]) hx (of_eq_true (gQ (by simp only [List.map_cons,List.map_nil,pY]; exact ⟨h,trivial⟩)))
attribute [go_sem] aaz aeL aay aeK aax aeJ aaw aeI aav aeH
theorem dcT (h:Decidable True): @decide True h=true:=decide_eq_true trivial
theorem anA:Pz (⟨#[117,110,116,105,108,32,54,53,48,32,52,48,48,32,53,59,113,117,101,110,99,104,32,49,32,51]⟩:ByteArray) (⟨#[32,59,40,41]⟩:ByteArray)=some 5:=by decide +kernel
theorem anz:MK (⟨#[32,54,53,48,32,52,48,48,32,53,59,113,117,101,110,99,104,32,49,32,51]⟩:ByteArray) (⟨#[32]⟩:ByteArray)=some ((⟨#[54,53,48,32,52,48,48,32,53,59,113,117,101,110,99,104,32,49,32,51]⟩:ByteArray),true):=by decide +kernel
theorem anx:Pz (⟨#[54,53,48,32,52,48,48,32,53,59,113,117,101,110,99,104,32,49,32,51]⟩:ByteArray) (⟨#[32,59,40,41]⟩:ByteArray)=some 3:=by decide +kernel
theorem anw:TR (⟨#[54,53,48]⟩:ByteArray)=some (650,true):=by decide +kernel
theorem anv:MK (⟨#[32,52,48,48,32,53,59,113,117,101,110,99,104,32,49,32,51]⟩:ByteArray) (⟨#[32]⟩:ByteArray)=some ((⟨#[52,48,48,32,53,59,113,117,101,110,99,104,32,49,32,51]⟩:ByteArray),true):=by decide +kernel
theorem anu:Pz (⟨#[52,48,48,32,53,59,113,117,101,110,99,104,32,49,32,51]⟩:ByteArray) (⟨#[32,59,40,41]⟩:ByteArray)=some 3:=by decide +kernel
theorem ant:TR (⟨#[52,48,48]⟩:ByteArray)=some (400,true):=by decide +kernel
theorem anr:MK (⟨#[32,53,59,113,117,101,110,99,104,32,49,32,51]⟩:ByteArray) (⟨#[32]⟩:ByteArray)=some ((⟨#[53,59,113,117,101,110,99,104,32,49,32,51]⟩:ByteArray),true):=by decide +kernel
theorem anq:Pz (⟨#[53,59,113,117,101,110,99,104,32,49,32,51]⟩:ByteArray) (⟨#[32,59,40,41]⟩:ByteArray)=some 1:=by decide +kernel
theorem anp:TR (⟨#[53]⟩:ByteArray)=some (5,true):=by decide +kernel
theorem ajM:MK (⟨#[59,113,117,101,110,99,104,32,49,32,51]⟩:ByteArray) (⟨#[59]⟩:ByteArray)=some ((⟨#[113,117,101,110,99,104,32,49,32,51]⟩:ByteArray),true):=by decide +kernel
theorem ajL:Pz (⟨#[113,117,101,110,99,104,32,49,32,51]⟩:ByteArray) (⟨#[32,59,40,41]⟩:ByteArray)=some 6:=by decide +kernel
theorem ajK:MK (⟨#[32,49,32,51]⟩:ByteArray) (⟨#[32]⟩:ByteArray)=some ((⟨#[49,32,51]⟩:ByteArray),true):=by decide +kernel
theorem ajJ:Pz (⟨#[49,32,51]⟩:ByteArray) (⟨#[32,59,40,41]⟩:ByteArray)=some 1:=by decide +kernel
theorem ajI:TR (⟨#[49]⟩:ByteArray)=some (1,true):=by decide +kernel
theorem ajH:MK (⟨#[32,51]⟩:ByteArray) (⟨#[32]⟩:ByteArray)=some ((⟨#[51]⟩:ByteArray),true):=by decide +kernel
theorem ajG:Pz (⟨#[51]⟩:ByteArray) (⟨#[32,59,40,41]⟩:ByteArray)=some (-1):=by decide +kernel
theorem ajF:TR (⟨#[51]⟩:ByteArray)=some (3,true):=by decide +kernel
theorem ajE:MK (⟨#[]⟩:ByteArray) (⟨#[59]⟩:ByteArray)=some ((⟨#[]⟩:ByteArray),false):=by decide +kernel
theorem ajD:agz ([(3,400,0,5,650,Hl.nil),(2,0,1,3,0,Hl.nil)])=some (0,0):=by decide +kernel
section
attribute [local go_sem] anA anz anx anw anv anu ant anr anq anp ajM ajL ajK ajJ ajI ajH ajG ajF ajE ajD oG oI not_true_eq_false dcT
theorem f9:aF prog 9 T9.sp:=by
 refine vm (tb:=tb9) (.cons f24 (.cons f25 (.cons f30 (.cons f52 (.cons f57 (.cons f58 (.cons f59 (.cons f60 (.cons f62 (.cons f123 (.cons f241 (.cons f288 (.cons f308 .nil))))))))))))) func9 ntmps9 λ_ r hr stop S=> ?_
 rw [uq0,r9] at hr
 refine S.gx [4,5] ?_
 obtain ⟨v1,hv1,hr⟩:=aB hr
 try simp only [List.cons_append,List.nil_append] at hv1
 obtain ⟨v2,hv2,hr⟩:=aB hr
 try simp only [List.cons_append,List.nil_append] at hv2
 obtain ⟨v3,hv3,hr⟩:=aB hr
 try simp only [List.cons_append,List.nil_append] at hv3
 obtain ⟨v4,hv4,hr⟩:=aB hr
 try simp only [List.cons_append,List.nil_append] at hv4
 obtain ⟨v5,hv5,hr⟩:=aB hr
 try simp only [List.cons_append,List.nil_append] at hv5
 obtain ⟨v6,hv6,hr⟩:=aB hr
 try simp only [List.cons_append,List.nil_append] at hv6
 obtain ⟨v7,hv7,hr⟩:=aB hr
 try simp only [List.cons_append,List.nil_append] at hv7
 refine gb hv1 ?_
 refine gb hv2 ?_
 refine gb hv3 ?_
 refine gb hv4 ?_
 refine gb hv5 ?_
 refine gb hv6 ?_
 refine gb hv7 ?_
 refine S.inl 0 [1,2,3,4,5,6] [] func61 (by decide) rfl ntmps61 (λcx e=>bD cZ iq cx e) (some 28) rfl rfl rfl rfl (nL rfl) (nL rfl) ?_
 refine gs ?_
 refine gr ?_
 intro stop1 S1
 refine S1.gw [4] ?_
 refine S1.inl 0 [4] [] func122 (by decide) rfl ntmps122 (λcx e=>bD cZ iq cx e) (some 15) rfl rfl rfl rfl (nL rfl) (nL rfl) ?_
 refine gs ?_
 refine gr ?_
 intro stop2 S2
 refine S2.gw [2,6] ?_
 refine S2.lp ?_
 refine S2.gw [2,6] ?_
 refine S2.inl 1 [0,4] [] func181 (by decide) rfl ntmps181 (λcx e=>bD cZ iq cx e) (some 9) rfl rfl rfl rfl (nL rfl) (nL rfl) ?_
 refine gs ?_
 refine gr ?_
 intro O7 S3
 refine S3.gw [1,9,16,18,20,7] ?_
 refine S3.inl 1 [0,2] [] func239 (by decide) rfl ntmps239 (λcx e=>bD cZ iq cx e) (some 15) rfl rfl rfl rfl (nL rfl) (nL rfl) ?_
 refine gs ?_
 refine gr ?_
 intro JB S4
 refine S4.gw [1] ?_
 refine S4.inl 1 [] [] func287 (by decide) rfl ntmps287 (λcx e=>bD cZ iq cx e) (some 8) rfl rfl rfl rfl (nL rfl) (nL rfl) ?_
 refine gs ?_
 refine gr ?_
 intro uT S5
 refine S5.gw [6] ?_
 refine S5.prune [4] ?_
 refine S5.gw [] ?_
 refine S4.gw [1] ?_
 refine S4.lp ?_
 refine S4.gw [1] ?_
 refine S4.lp ?_
 refine S4.gw [1] ?_
 refine S4.lp ?_
 refine S4.gw [1] ?_
 refine S4.lp ?_
 refine S4.gw [1] ?_
 refine S3.gw [1,9,16,18,20,7] ?_
 refine S3.lp ?_
 refine S3.gw [1,9,16,18,20,7] ?_
 refine S3.prune [0,2,4,6,45,46,47] ?_
 refine S3.gw [1,9,16,18,20] ?_
 refine S3.inl 1 [0,2,4,6,9,45,46,47] [] func240 (by decide) rfl ntmps240 (λcx e=>bD cZ iq cx e) (some 53) rfl rfl rfl rfl (nL rfl) (nL rfl) ?_
 refine gs ?_
 refine gr ?_
 intro JB S4
 refine S4.gw [1,3] ?_
 refine S4.inl 1 [0] [] func182 (by decide) rfl ntmps182 (λcx e=>bD cZ iq cx e) (some 5) rfl rfl rfl rfl (nL rfl) (nL rfl) ?_
 refine gs ?_
 refine gr ?_
 intro uT S5
 refine S5.gw [] ?_
 refine S4.gw [1,3] ?_
 refine S4.inl 1 [] [] func287 (by decide) rfl ntmps287 (λcx e=>bD cZ iq cx e) (some 8) rfl rfl rfl rfl (nL rfl) (nL rfl) ?_
 refine gs ?_
 refine gr ?_
 intro uT S5
 refine S5.gw [6] ?_
 refine S5.prune [4] ?_
 refine S5.gw [] ?_
 refine S4.gw [1,3] ?_
 refine S3.gw [1,9,16,18,20,7] ?_
 refine S3.lp ?_
 refine S3.gw [1,9,16,18,20,7] ?_
 refine S3.prune [0,2,4,6,45,46,47] ?_
 refine S3.gw [1,9,16,18,20] ?_
 refine S3.inl 1 [0,2,4,6,9,45,46,47] [] func240 (by decide) rfl ntmps240 (λcx e=>bD cZ iq cx e) (some 53) rfl rfl rfl rfl (nL rfl) (nL rfl) ?_
 refine gs ?_
 refine gr ?_
 intro JB S4
 refine S4.gw [1,3] ?_
 refine S4.inl 1 [0] [] func182 (by decide) rfl ntmps182 (λcx e=>bD cZ iq cx e) (some 5) rfl rfl rfl rfl (nL rfl) (nL rfl) ?_
 refine gs ?_
 refine gr ?_
 intro uT S5
 refine S5.gw [] ?_
 refine S4.gw [1,3] ?_
 refine S4.inl 1 [] [] func287 (by decide) rfl ntmps287 (λcx e=>bD cZ iq cx e) (some 8) rfl rfl rfl rfl (nL rfl) (nL rfl) ?_
 refine gs ?_
 refine gr ?_
 intro uT S5
 refine S5.gw [6] ?_
 refine S5.prune [4] ?_
 refine S5.gw [] ?_
 refine S4.gw [1,3] ?_
 refine S3.gw [1,9,16,18,20,7] ?_
 refine S3.lp ?_
 refine S3.gw [1,9,16,18,20,7] ?_
 refine S3.prune [0,2,4,6,45,46,47] ?_
 refine S3.gw [1,9,16,18,20] ?_
 refine S3.inl 1 [0,2,4,6,9,45,46,47] [] func240 (by decide) rfl ntmps240 (λcx e=>bD cZ iq cx e) (some 53) rfl rfl rfl rfl (nL rfl) (nL rfl) ?_
 refine gs ?_
 refine gr ?_
 intro JB S4
 refine S4.gw [1,3] ?_
 refine S4.inl 1 [0] [] func182 (by decide) rfl ntmps182 (λcx e=>bD cZ iq cx e) (some 5) rfl rfl rfl rfl (nL rfl) (nL rfl) ?_
 refine gs ?_
 refine gr ?_
 intro uT S5
 refine S5.gw [] ?_
 refine S4.gw [1,3] ?_
 refine S4.inl 1 [] [] func287 (by decide) rfl ntmps287 (λcx e=>bD cZ iq cx e) (some 8) rfl rfl rfl rfl (nL rfl) (nL rfl) ?_
 refine gs ?_
 refine gr ?_
 intro uT S5
 refine S5.gw [6] ?_
 refine S5.prune [4] ?_
 refine S5.gw [] ?_
 refine S4.gw [1,3] ?_
 refine S3.gw [1,9,16,18,20,7] ?_
 refine S3.lp ?_
 refine S3.gw [1,9,16,18,20,7] ?_
 refine S3.prune [0,2,4,6,45,46,47] ?_
 refine S3.gw [1,9,16,18,20] ?_
 refine S2.gx [2,6] ?_
 obtain ⟨Ji,hr⟩:=aP hr
 refine gr ?_
 refine S2.inl 1 [0,4] [] func182 (by decide) rfl ntmps182 (λcx e=>bD cZ iq cx e) (some 19) rfl rfl rfl rfl (nL rfl) (nL rfl) ?_
 refine gs ?_
 refine gr ?_
 intro O7 S3
 refine S3.gw [] ?_
 refine S2.gw [2,6] ?_
 refine S2.lp ?_
 refine S2.gw [2,6] ?_
 refine S2.inl 1 [0,4] [] func181 (by decide) rfl ntmps181 (λcx e=>bD cZ iq cx e) (some 9) rfl rfl rfl rfl (nL rfl) (nL rfl) ?_
 refine gs ?_
 refine gr ?_
 intro O7 S3
 refine S3.gw [1,9,16,18,20,7] ?_
 refine S3.inl 1 [0,2] [] func239 (by decide) rfl ntmps239 (λcx e=>bD cZ iq cx e) (some 15) rfl rfl rfl rfl (nL rfl) (nL rfl) ?_
 refine gs ?_
 refine gr ?_
 intro JB S4
 refine S4.gw [1] ?_
 refine S4.inl 1 [] [] func287 (by decide) rfl ntmps287 (λcx e=>bD cZ iq cx e) (some 8) rfl rfl rfl rfl (nL rfl) (nL rfl) ?_
 refine gs ?_
 refine gr ?_
 intro uT S5
 refine S5.gw [6] ?_
 refine S5.prune [4] ?_
 refine S5.gw [] ?_
 refine S4.gw [1] ?_
 refine S4.lp ?_
 refine S4.gw [1] ?_
 refine S4.lp ?_
 refine S4.gw [1] ?_
 refine S4.lp ?_
 refine S4.gw [1] ?_
 refine S3.gw [1,9,16,18,20,7] ?_
 refine S3.lp ?_
 refine S3.gw [1,9,16,18,20,7] ?_
 refine S3.prune [0,2,4,6,45,46,47] ?_
 refine S3.gw [1,9,16,18,20] ?_
 refine S3.inl 1 [0,2,4,6,9,45,46,47] [] func240 (by decide) rfl ntmps240 (λcx e=>bD cZ iq cx e) (some 53) rfl rfl rfl rfl (nL rfl) (nL rfl) ?_
 refine gs ?_
 refine gr ?_
 intro JB S4
 refine S4.gw [1,3] ?_
 refine S4.inl 1 [0] [] func182 (by decide) rfl ntmps182 (λcx e=>bD cZ iq cx e) (some 5) rfl rfl rfl rfl (nL rfl) (nL rfl) ?_
 refine gs ?_
 refine gr ?_
 intro uT S5
 refine S5.gw [] ?_
 refine S4.gw [1,3] ?_
 refine S4.inl 1 [] [] func287 (by decide) rfl ntmps287 (λcx e=>bD cZ iq cx e) (some 8) rfl rfl rfl rfl (nL rfl) (nL rfl) ?_
 refine gs ?_
 refine gr ?_
 intro uT S5
 refine S5.gw [6] ?_
 refine S5.prune [4] ?_
 refine S5.gw [] ?_
 refine S4.gw [1,3] ?_
 refine S3.gw [1,9,16,18,20,7] ?_
 refine S3.lp ?_
 refine S3.gw [1,9,16,18,20,7] ?_
 refine S3.prune [0,2,4,6,45,46,47] ?_
 refine S3.gw [1,9,16,18,20] ?_
 refine S3.inl 1 [0,2,4,6,9,45,46,47] [] func240 (by decide) rfl ntmps240 (λcx e=>bD cZ iq cx e) (some 53) rfl rfl rfl rfl (nL rfl) (nL rfl) ?_
 refine gs ?_
 refine gr ?_
 intro JB S4
 refine S4.gw [1,3] ?_
 refine S4.inl 1 [0] [] func182 (by decide) rfl ntmps182 (λcx e=>bD cZ iq cx e) (some 5) rfl rfl rfl rfl (nL rfl) (nL rfl) ?_
 refine gs ?_
 refine gr ?_
 intro uT S5
 refine S5.gw [] ?_
 refine S4.gw [1,3] ?_
 refine S4.inl 1 [] [] func287 (by decide) rfl ntmps287 (λcx e=>bD cZ iq cx e) (some 8) rfl rfl rfl rfl (nL rfl) (nL rfl) ?_
 refine gs ?_
 refine gr ?_
 intro uT S5
 refine S5.gw [6] ?_
 refine S5.prune [4] ?_
 refine S5.gw [] ?_
 refine S4.gw [1,3] ?_
 refine S3.gw [1,9,16,18,20,7] ?_
 refine S3.lp ?_
 refine S3.gw [1,9,16,18,20,7] ?_
 refine S3.prune [0,2,4,6,45,46,47] ?_
 refine S3.gw [1,9,16,18,20] ?_
 refine S2.gx [2,6] ?_
 obtain ⟨Nv,hr⟩:=aP hr
 refine gr ?_
 refine S2.inl 1 [0,4] [] func182 (by decide) rfl ntmps182 (λcx e=>bD cZ iq cx e) (some 19) rfl rfl rfl rfl (nL rfl) (nL rfl) ?_
 refine gs ?_
 refine gr ?_
 intro O7 S3
 refine S3.gw [] ?_
 refine S2.gw [2,6] ?_
 refine S1.gx [4] ?_
 repeat (first | refine gA ?_ | refine gB ?_)
 refine S.gw [4,5] ?_
 refine S.sees [1,2,3,4,5,6,7,8] [] [(12,12),(19,19),(100017,100017)] (st':=⟨[sO 1 12,sI 2 v3.2,sO 3 19,sI 4 v6.2,sI 5 v7.1,sI 6 v7.2,sO 7 100017,sI 8 0],[],[(12,.owned (aj 2 aQ v3.1)),(19,.owned (aj 2 aQ v6.1)),(100017,.owned (aj 6 dO ([(3,400,0,5,650,Hl.nil)]++[(2,0,1,3,0,Hl.nil)])))]⟩) ?_ ?_
 ·exact lf
 refine S.gx [4] ?_
 obtain ⟨XT,hr⟩:=aP hr
 obtain ⟨ZK,hr⟩:=aP hr
 obtain ⟨Jj,hr⟩:=aP hr
 repeat (first | refine gG XT ?_ | refine gG ZK ?_ | refine gG Jj ?_ | refine gA ?_ | refine gB ?_)
 exact D0 hr
end
def KW (x0:au):Bd Int Bool:=λs1=>
 if (decide (s1<(x0.length:Int)))=true then
  if 0<=s1/\s1<(x0.length:Int) then
   if (decide (((x0.getD s1.toNat default).length:Int)>14))=true then
    .out (some false)
    else .next (IntKind.i64.wrap (s1+1))
   else .out none
  else .out (some true)
def r77 (x1 x6:Int) (x2:aA) (x0:au) (x3 x4:aV) (x5:aA) (x7 x8:Int):Option (Bool):=
 if ((((((decide (x1>14)) || (decide ((x2.length:Int)>14))) || (decide ((x0.length:Int)>14))) || (decide ((x3.length:Int)>14))) || (decide ((x4.length:Int)>14))) || (decide ((x5.length:Int)>14)))=true then
  some false
  else aK (KW x0) 1000000000 0
@[go_sem] def T77:=PO qV false r77
theorem f77:aF prog 77 T77.sp:=by
 refine vm .nil func77 ntmps77 λ⟨x1,x6,x2,x0,x3,x4,x5,x7,x8⟩ r hr stop S=> ?_
 rw [RY,r77] at hr
 refine S.gx [2,3] ?_
 repeat (first | refine gA ?_ | refine gB ?_)
 refine iW hr (λhc hr=> ?_) λhc hr=> ?_
 ·refine gr ?_
  refine S.prune [] ?_
  refine S.gx [3] ?_
  exact D0 hr
 refine gr ?_
 refine S.prune [1] ?_
 refine S.gw [2] ?_
 refine S.li [1,3] [(1,1)] [] (λs1=>⟨[sR 1 1,sI 3 s1],[(1,[iC x1,iC x6,.d (aj 2 aQ x2),.d (aj 1 aU x0),.d (aj 1 dh x3),.d (aj 1 dh x4),.d (aj 2 aQ x5),iC x7,iC x8])],[]⟩) (KW x0) (λq=>q=r) hr rfl ?_
 intro s1 hr
 unfold KW at hr
 refine S.gx [2,3] ?_
 exact D1 (S.ss [1,3] [(1,1)] []) hr
def r78 (x0:aT) (x1:aG) (x2:aJ) (x3:aA) (x4 x5 x6 x7:Int):Option (Bool):=
 some ((((decide ((x0.length:Int)<=10)) && (decide ((x1.length:Int)<=10))) && (decide ((x2.length:Int)<=10))) && (decide ((x3.length:Int)<=10)))
@[go_sem] def T78:=PK qV false r78
theorem f78:aF prog 78 T78.sp:=by
 refine vm .nil func78 ntmps78 λ⟨x0,x1,x2,x3,x4,x5,x6,x7⟩ r hr stop S=> ?_
 rw [uq8,r78] at hr
 refine S.gx [] ?_
 repeat (first | refine gA ?_ | refine gB ?_)
 exact D0 hr
def r21 (x8 x9:Int) (x10:aA) (x11:au) (x12 cO:aV) (x14:aA) (x15 x16:Int) (x0:aT) (x1:aG) (x2:aJ) (x3:aA) (x4 x5 x6 x7:Int) (x17:aJ) (x18:Int):Option (Bool):=
 (r77 x8 x9 x10 x11 x12 cO x14 x15 x16).bind λv1=>
  if v1=true->(r78 x0 x1 x2 x3 x4 x5 x6 x7).isSome=true then
   some ((v1 && ((r78 x0 x1 x2 x3 x4 x5 x6 x7).getD default)) && (decide ((x17.length:Int)<=8)))
   else none
@[go_sem] def T21:=Ud qV false r21
@[go_sem] def aCe (k:Nat):=lk [(77,T77.sp),(78,T78.sp)] k
theorem f21:aF prog 21 T21.sp:=by
 refine vm (tb:=aCe) (.cons f77 (.cons f78 .nil)) func21 ntmps21 λ⟨x8,x9,x10,x11,x12,cO,x14,x15,x16,x0,x1,x2,x3,x4,x5,x6,x7,x17,x18⟩ r hr stop S=> ?_
 rw [OL,r21] at hr
 refine S.gx [] ?_
 obtain ⟨v1,hv1,hr⟩:=aB hr
 obtain ⟨hg2,hr⟩:=aP hr
 try simp only [hv1,oG,oI,true_and,and_assoc]
 repeat (first | refine gG hg2 ?_ | refine gA ?_ | refine gB ?_)
 exact D0 hr
section
variable {β:Type} [Inhabited β] (u:β->List RV) (al:Bool)
def aq2 (a0 a1:aV):List Arg:=[.agg [aj 1 dh a0,aj 1 dh a1]]
def asM:List Arg->aV×aV
 | [.agg [c0,c1]]=>(aN kV c0,aN kV c1)
 | _=>default
def at6 (r:aV->aV->Option β):=mkT (u2 aq2) asM (u2 r) u al
attribute [go_sem] aq2 asM at6
def asg (v:Int×Int×aA×au):List RV:=[.agg [.d (.int .i64 v.1),.d (.int .i64 v.2.1),.own (aj 2 aQ v.2.2.1),.own (aj 1 aU v.2.2.2)]]
attribute [go_sem] asg
def ase (v:aV×aV):List RV:=[.agg [.own (aj 1 dh v.1),.own (aj 1 dh v.2)]]
attribute [go_sem] ase
end
def KY (x2 x3:Int) (x1:aA) (x0:au):Bd (Int×(List (aA))) (Int×Int×aA×au):=λs1=>
 if (decide (s1.1<(x0.length:Int)))=true then
  if 0<=s1.1/\s1.1<(x0.length:Int) then
   if (0+(x0.getD s1.1.toNat default).length)*16<=140737488355328/\0+(x0.getD s1.1.toNat default).length<=9223372036854775807 then
    if (s1.2.length+1)*24<=140737488355328/\s1.2.length+1<=9223372036854775807 then
     .next (IntKind.i64.wrap (s1.1+1),s1.2++[(x0.getD s1.1.toNat default)])
     else .out none
    else .out none
   else .out none
  else .out (some (x2,x3,x1,s1.2))
def r40 (x2 x3:Int) (x1:aA) (x0:au):Option (Int×Int×aA×au):=
 if (0+x1.length)*16<=140737488355328/\0+x1.length<=9223372036854775807 then
  aK (KY x2 x3 x1 x0) 1000000000 (0,[])
  else none
@[go_sem] def T40:=Zp asg true r40
theorem f40:aF prog 40 T40.sp:=by
 refine vm .nil func40 ntmps40 λ⟨x2,x3,x1,x0⟩ r hr stop S=> ?_
 rw [uq4,r40] at hr
 refine S.gx [] ?_
 obtain ⟨hg4,hr⟩:=aP hr
 refine gr ?_
 refine S.uI 3 3 2000303 1 rfl rfl (nL rfl) rfl ?_
 refine S.li [1,2,3,4] [(1,1),(2,2),(3,3)] [(2000303,2000303),(9,9)] (λs1=>⟨[sR 1 1,sR 2 2,sR 3 3,sI 4 s1.1],[(1,[iC x2,iC x3,.d (aj 2 aQ x1),.d (aj 1 aU x0)]),(2,[iC 0,iC 0,.dF,.dF]),(3,[iC x2,iC x3,.own 9,.own 2000303])],[(2000303,.owned (aj 1 aU s1.2)),(9,.owned (aj 2 aQ x1))]⟩) (KY x2 x3 x1 x0) (λq=>q=r) hr rfl ?_
 intro s1 hr
 unfold KY at hr
 refine S.gx [] ?_
 exact D1 (S.ss [1,2,3,4] [(1,1),(2,2),(3,3)] [(29,2000303),(9,9)]) hr
def r70 (a0:aV):Option (aV):=
 if (0+a0.length)*8<=140737488355328/\0+a0.length<=9223372036854775807 then
  some a0
  else none
@[go_sem] def T70:=qT3 asf false r70
theorem f70:aF prog 70 T70.sp:=by
 refine vm .nil func70 ntmps70 λa0 r hr stop S=> ?_
 rw [sQ,r70] at hr
 refine S.gx [] ?_
 exact D0 hr
def r97 (x0 x1:aV):Option (aV×aV):=
 (r70 x0).bind λv1=>
  (r70 x1).bind λv2=>
   some (v1,v2)
@[go_sem] def T97:=at6 ase false r97
@[go_sem] def aBS (k:Nat):=lk [(70,T70.sp)] k
theorem f97:aF prog 97 T97.sp:=by
 refine vm (tb:=aBS) (.cons f70 .nil) func97 ntmps97 λ⟨x0,x1⟩ r hr stop S=> ?_
 rw [DV,r97] at hr
 refine S.gx [] ?_
 exact D0 hr
def r98 (a0:aA):Option (aA):=
 if (0+a0.length)*16<=140737488355328/\0+a0.length<=9223372036854775807 then
  some a0
  else none
@[go_sem] def T98:=qT5 qu5 false r98
theorem f98:aF prog 98 T98.sp:=by
 refine vm .nil func98 ntmps98 λa0 r hr stop S=> ?_
 rw [sQ,r98] at hr
 refine S.gx [] ?_
 exact D0 hr
def r35 (x0 x1:Int) (x2:aA) (x3:au) (x4 x5:aV) (x6:aA) (x7 x8:Int):Option (Int×Int×aA×au×aV×aV×aA×Int×Int):=
 (r40 x0 x1 x2 x3).bind λv1=>
  (r97 x4 x5).bind λv2=>
   (r98 x6).bind λv3=>
    some (v1.1,v1.2.1,v1.2.2.1,v1.2.2.2,v2.1,v2.2,v3,x7,x8)
@[go_sem] def T35:=PO qu0 true r35
@[go_sem] def aB7 (k:Nat):=lk [(40,T40.sp),(97,T97.sp),(98,T98.sp)] k
theorem f35:aF prog 35 T35.sp:=by
 refine vm (tb:=aB7) (.cons f40 (.cons f97 (.cons f98 .nil))) func35 ntmps35 λ⟨x0,x1,x2,x3,x4,x5,x6,x7,x8⟩ r hr stop S=> ?_
 rw [RY,r35] at hr
 refine S.gx [] ?_
 exact D0 hr
def r46 (x0:aT) (x1:aG) (x2:aJ) (x3:aA) (x4 x5 x6 x7:Int):Option (aT×aG×aJ×aA×Int×Int×Int×Int):=
 if (0+x0.length)*32<=140737488355328/\0+x0.length<=9223372036854775807 then
  if (0+x1.length)*40<=140737488355328/\0+x1.length<=9223372036854775807 then
   if (0+x2.length)*24<=140737488355328/\0+x2.length<=9223372036854775807 then
    if (0+x3.length)*16<=140737488355328/\0+x3.length<=9223372036854775807 then
     some (x0,x1,x2,x3,x4,x5,x6,x7)
     else none
    else none
   else none
  else none
@[go_sem] def T46:=PK akC false r46
theorem f46:aF prog 46 T46.sp:=by
 refine vm .nil func46 ntmps46 λ⟨x0,x1,x2,x3,x4,x5,x6,x7⟩ r hr stop S=> ?_
 rw [uq8,r46] at hr
 refine S.gx [] ?_
 exact D0 hr
def r23 (x1 x2:Int) (x3:aA) (x4:au) (x5 x6:aV) (x7:aA) (x8 x9:Int) (x10:aT) (x11:aG) (x12:aJ) (cO:aA) (x14 x15 x16 x17:Int) (x0:aJ) (x18:Int):Option (Int×Int×aA×au×aV×aV×aA×Int×Int×aT×aG×aJ×aA×Int×Int×Int×Int×aJ×Int):=
 (r35 x1 x2 x3 x4 x5 x6 x7 x8 x9).bind λv1=>
  (r46 x10 x11 x12 cO x14 x15 x16 x17).bind λv2=>
   if (0+x0.length)*24<=140737488355328/\0+x0.length<=9223372036854775807 then
    some (v1.1,v1.2.1,v1.2.2.1,v1.2.2.2.1,v1.2.2.2.2.1,v1.2.2.2.2.2.1,v1.2.2.2.2.2.2.1,v1.2.2.2.2.2.2.2.1,v1.2.2.2.2.2.2.2.2,v2.1,v2.2.1,v2.2.2.1,v2.2.2.2.1,v2.2.2.2.2.1,v2.2.2.2.2.2.1,v2.2.2.2.2.2.2.1,v2.2.2.2.2.2.2.2,x0,x18)
    else none
@[go_sem] def T23:=Ud akB true r23
@[go_sem] def aCc (k:Nat):=lk [(35,T35.sp),(46,T46.sp)] k
theorem f23:aF prog 23 T23.sp:=by
 refine vm (tb:=aCc) (.cons f35 (.cons f46 .nil)) func23 ntmps23 λ⟨x1,x2,x3,x4,x5,x6,x7,x8,x9,x10,x11,x12,cO,x14,x15,x16,x17,x0,x18⟩ r hr stop S=> ?_
 rw [OL,r23] at hr
 refine S.gx [] ?_
 exact D0 hr
section
variable {β:Type} [Inhabited β] (u:β->List RV) (al:Bool)
def aq1 (a0 a1 a2 a3:Int) (a4:aA) (a5:au) (a6 a7:aV) (a8:aA) (a9 a10 a11 a12:Int) (jE:aA) (jR:au) (kJ a16:aV) (a17:aA) (ng oO:Int) (a20:aT) (a21:aG) (a22:aJ) (a23:aA) (a24 a25 a26 a27:Int) (a28:aJ) (a29:Int):List Arg:=[.agg [.int .i64 a0,.int .i64 a1],.ptr [.int .i64 a2,.int .i64 a3,aj 2 aQ a4,aj 1 aU a5,aj 1 dh a6,aj 1 dh a7,aj 2 aQ a8,.int .i64 a9,.int .i64 a10,.int .i64 a11,.int .i64 a12,aj 2 aQ jE,aj 1 aU jR,aj 1 dh kJ,aj 1 dh a16,aj 2 aQ a17,.int .i64 ng,.int .i64 oO,aj 4 bV a20,aj 5 bI a21,aj 3 bU a22,aj 2 aQ a23,.int .i64 a24,.int .i64 a25,.int .i64 a26,.int .i64 a27,aj 3 bU a28,.int .i64 a29]]
def asL:List Arg->Int×Int×Int×Int×aA×au×aV×aV×aA×Int×Int×Int×Int×aA×au×aV×aV×aA×Int×Int×aT×aG×aJ×aA×Int×Int×Int×Int×aJ×Int
 | [.agg [c0,c1],.ptr [c2,c3,c4,c5,c6,c7,c8,c9,c10,c11,c12,c13,c14,c15,c16,c17,c18,c19,c20,c21,Vy,c23,c24,c25,c26,c27,c28,c29]]=>(aC c0,aC c1,aC c2,aC c3,aN bZ c4,aN bW c5,aN kV c6,aN kV c7,aN bZ c8,aC c9,aC c10,aC c11,aC c12,aN bZ c13,aN bW c14,aN kV c15,aN kV c16,aN bZ c17,aC c18,aC c19,aN jo c20,aN gq c21,aN jc Vy,aN bZ c23,aC c24,aC c25,aC c26,aC c27,aN jc c28,aC c29)
 | _=>default
def at1 (r:Int->Int->Int->Int->aA->au->aV->aV->aA->Int->Int->Int->Int->aA->au->aV->aV->aA->Int->Int->aT->aG->aJ->aA->Int->Int->Int->Int->aJ->Int->Option β):=mkT (u30 aq1) asL (u30 r) u al
attribute [go_sem] aq1 asL at1
end
theorem adR (w:World) (m:Nat) (h0:0<m) (h1:m<=1000000) :
 Calls prog 205 #[.slice none 0 0,.int .i64 (m:Int)] w λe w'=>∃ v,e= .returned v/\∃ cap c,v= .slice (some ⟨w.heap.size,0,none⟩) 0 cap/\w'=w.drew.alloc (.cells c 90)/\c.size=cap*2:=by
 have hbytes:Tryz.t90.bytes=16:=rfl
 have hns:Builtin.nextslicecap m 0=m:=nextslicecap_zero h0
 go_enter func205,ntmps205
 go_wp2
 all_goals try (exfalso; simp only [hbytes,hns] at *; omega)
 all_goals go_ret
 refine ⟨_,rfl,_,rfl,_,rfl,?_⟩
 have hcap:=grownCap_ge w m 0 90
 simp only [grownCap] at hcap
 simp [Builtin.zeroCells]
 omega
theorem adQ (w:World) :
 Calls prog 205 #[.slice none 0 0,.int .i64 0] w λe w'=>∃ v,e= .returned v/\v= .slice none 0 0/\w'=w:=by
 go_enter func205,ntmps205
 go_wp2
 all_goals go_ret
 exact ⟨_,rfl,rfl,rfl⟩
theorem ahk (n:Int) (h0:0<=n) (h1:n<=1000000) (w:World):Calls prog 205 #[.slice none 0 0,.int .i64 n] w λe w'=>∃ v,e= .returned v/\AQ 2 w w' v:=by
 obtain ⟨m,rfl⟩:∃ m:Nat,n=m:=⟨n.toNat,by omega⟩
 rcases Nat.eq_zero_or_pos m with rfl | hm
 ·refine (adQ w).mono ?_
  rintro e w' ⟨v,rfl,rfl,rfl⟩
  exact ⟨_,rfl,.refl _,Nat.le_refl _,λ_ _=>rfl,.inl rfl⟩
 refine (adR w m hm (by omega)).mono ?_
 rintro e w' ⟨v,rfl,cap,c,rfl,rfl,hc⟩
 have hh:(w.drew.alloc (.cells c 90)).heap=w.heap.push (.cells c 90 (0,0)):=rfl
 refine ⟨_,rfl,⟨rfl,rfl,rfl⟩,by rw [hh,Array.size_push]; exact Nat.le_succ _,λB hB=> ?_,.inr ⟨_,cap,c,_,rfl,Nat.le_refl _,by rw [hh,Array.size_push]; exact Nat.lt_succ_self _,by rw [hh,Array.getElem?_push_size],hc⟩⟩
 rw [hh,Array.getElem?_push,if_neg (Nat.ne_of_lt hB)]
def CZ (a0:au):Bd (Int×(List (Int×Int))) aA:=λs2=>
 if (decide (s2.1<(a0.length:Int)))=true then
  if 0<=s2.1/\s2.1<(a0.length:Int) then
   if (s2.2.length+(a0.getD s2.1.toNat default).length)*16<=140737488355328/\s2.2.length+(a0.getD s2.1.toNat default).length<=9223372036854775807 then
    .next (IntKind.i64.wrap (s2.1+1),s2.2++(a0.getD s2.1.toNat default))
    else .out none
   else .out none
  else .out (some s2.2)
def C9 (a0:au):Bd (Int×Int) aA:=λs1=>
 if (decide (s1.2<(a0.length:Int)))=true then
  if 0<=s1.2/\s1.2<(a0.length:Int) then
   if (decide ((IntKind.i64.wrap (s1.1+((a0.getD s1.2.toNat default).length:Int)))<0))=true then
    .out none
    else .next (IntKind.i64.wrap (s1.1+((a0.getD s1.2.toNat default).length:Int)),IntKind.i64.wrap (s1.2+1))
   else .out none
  else .out (if 0<=s1.1/\s1.1<=1000000 then
   aK (CZ a0) 1000000000 (0,([]:List (Int×Int)))
   else none)
def ach (a0:au):Option (aA):=
 aK (C9 a0) 1000000000 (0,0)
@[go_sem] def ayF:=qT6 qu5 false ach
theorem f148:aF prog 148 ayF.sp:=by
 refine vm .nil func148 ntmps148 λa0 r hr stop S=> ?_
 rw [sQ,ach] at hr
 refine S.gx [9] ?_
 refine gr ?_
 refine S.li [0,3,9,10,11] [] [] (λs1=>⟨[(0,.c (.d (aj 1 aU a0))),sI 3 s1.1,(9,.c (.d (aj 1 aU a0))),sI 10 (a0.length:Int),sI 11 s1.2],[],[]⟩) (C9 a0) (λq=>q=r) hr rfl ?_
 intro s1 hr
 unfold C9 at hr
 refine S.gw [9] ?_
 refine gJ hr (λhc hr=> ?_) λhc hr=> ?_
 ·obtain ⟨hg1,hr⟩:=aH hr
  refine gr ?_
  refine gJ hr (λhc hr=> ?_) λhc hr=>D1 (S.ss [0,3,9,10,11] [] []) hr
  refine gr ?_
  first | cases hr | exact hr.elim
 refine gr ?_
 have hr:=bT hr
 refine gr ?_
 obtain ⟨hg2,hr⟩:=aP hr
 refine gr ?_
 refine S.Rw 1 23 24 3000024 2 rfl rfl rfl rfl (by decide) func205 (by decide) rfl (ahk _ hg2.1 hg2.2) ?_
 refine gs ?_
 refine S.gw [9] ?_
 refine S.li [6,25,26,27] [] [(3000024,3000024)] (λs2=>⟨[sO 6 3000024,(25,.c (.d (aj 1 aU a0))),sI 26 (a0.length:Int),sI 27 s2.1],[],[(3000024,.owned (aj 2 aQ s2.2))]⟩) (CZ a0) (λq=>q=r) hr rfl ?_
 intro s2 hr
 unfold CZ at hr
 refine S.gx [9] ?_
 exact D1 (S.ss [6,25,26,27] [] [(33,3000024)]) hr
def agw (x2 x0 x3 x4:Int) (x5:aA) (x6:au) (x7 x8:aV) (x9:aA) (x10 x11 x12 cO:Int) (x14:aA) (x15:au) (x16 x17:aV) (x18:aA) (x19 x20:Int) (x21:aT) (oz:aG) (x23:aJ) (x24:aA) (x25 uO x27 x28:Int) (x29:aJ) (x1:Int):Option (Bool):=
 some (decide (x0>x1))
@[go_sem] def ayE:=at1 qV false agw
theorem f149:aF prog 149 ayE.sp:=by
 refine vm .nil func149 ntmps149 λ⟨x2,x0,x3,x4,x5,x6,x7,x8,x9,x10,x11,x12,cO,x14,x15,x16,x17,x18,x19,x20,x21,oz,x23,x24,x25,uO,x27,x28,x29,x1⟩ r hr stop S=> ?_
 rw [ajN,agw] at hr
 refine S.gx [] ?_
 exact D0 hr
def Io (x1 x2:Int) (x3:aA) (x4:au) (x5 x6:aV) (x7:aA) (x8 x9 x10 x11:Int) (x12:aA) (cO:au) (x14 x15:aV) (x16:aA) (x17 x18:Int) (x19:aT) (x20:aG) (x21:aJ) (oz:aA) (x23 x24 x25 uO:Int) (x0:aJ) (x27:Int) (v4:aA):Bd Int (Int×Int):=λs2=>
 if (decide (s2<(v4.length:Int)))=true then
  if 0<=s2/\s2<(v4.length:Int) then
   aW (agw ((v4.getD s2.toNat default).1) ((v4.getD s2.toNat default).2) x1 x2 x3 x4 x5 x6 x7 x8 x9 x10 x11 x12 cO x14 x15 x16 x17 x18 x19 x20 x21 oz x23 x24 x25 uO x0 x27) λv5=>
    if v5=true then
     .out (if (decide (s2>=0))=true then
      some ((x0.length:Int),0)
      else some (0,12))
     else .next (IntKind.i64.wrap (s2+1))
   else .out none
  else .out (some (0,12))
def KR (x1 x2:Int) (x3:aA) (x4:au) (x5 x6:aV) (x7:aA) (x8 x9 x10 x11:Int) (x12:aA) (cO:au) (x14 x15:aV) (x16:aA) (x17 x18:Int) (x19:aT) (x20:aG) (x21:aJ) (oz:aA) (x23 x24 x25 uO:Int) (x0:aJ) (x27:Int) (v1:aA×au×Int):Bd Int (Int×Int):=λs1=>
 if (decide (s1<(x0.length:Int)))=true then
  if 0<=s1/\s1<(x0.length:Int) then
   if 0<=(x0.getD s1.toNat default).1/\(x0.getD s1.toNat default).1<(v1.1.length:Int) then
    if ((decide (((v1.1.getD ((x0.getD s1.toNat default).1).toNat default).1)<((x0.getD s1.toNat default).2.1))) || (decide (((v1.1.getD ((x0.getD s1.toNat default).1).toNat default).2)>((x0.getD s1.toNat default).2.2))))=true then
     .out (some (s1,0))
     else .next (IntKind.i64.wrap (s1+1))
    else .out none
   else .out none
  else .out ((ach v1.2.1).bind λv4=>
   aK (Io x1 x2 x3 x4 x5 x6 x7 x8 x9 x10 x11 x12 cO x14 x15 x16 x17 x18 x19 x20 x21 oz x23 x24 x25 uO x0 x27 v4) 1000000000 0)
def r85 (x1 x2:Int) (x3:aA) (x4:au) (x5 x6:aV) (x7:aA) (x8 x9 x10 x11:Int) (x12:aA) (cO:au) (x14 x15:aV) (x16:aA) (x17 x18:Int) (x19:aT) (x20:aG) (x21:aJ) (oz:aA) (x23 x24 x25 uO:Int) (x0:aJ) (x27:Int) (a1:aA):Option (Int×Int):=
 (r84 x1 x2 x3 x4 x5 x6 x7 x8 x9 x10 x11 x12 cO x14 x15 x16 x17 x18 x19 x20 x21 oz x23 x24 x25 uO x0 x27 a1).bind λv1=>
  if (v1.2.2 != 0)=true then
   some (0,v1.2.2)
   else aK (KR x1 x2 x3 x4 x5 x6 x7 x8 x9 x10 x11 x12 cO x14 x15 x16 x17 x18 x19 x20 x21 oz x23 x24 x25 uO x0 x27 v1) 1000000000 0
@[go_sem] def T85:=akG JM false r85
@[go_sem] def apm (k:Nat):=lk [(84,T84.sp),(148,ayF.sp),(149,ayE.sp)] k
theorem Xa:fM prog apm:= .cons f84 (.cons f148 (.cons f149 .nil))
theorem f85:aF prog 85 T85.sp:=by
 refine vm (tb:=apm) (.cons f84 (.cons f148 (.cons f149 .nil))) func85 ntmps85 λ⟨x1,x2,x3,x4,x5,x6,x7,x8,x9,x10,x11,x12,cO,x14,x15,x16,x17,x18,x19,x20,x21,oz,x23,x24,x25,uO,x0,x27,a1⟩ r hr stop S=> ?_
 rw [ajO,r85] at hr
 refine S.gx [11,9] ?_
 obtain ⟨v1,hv1,hr⟩:=aB hr
 refine gb hv1 ?_
 refine iW hr (λhc hr=>D0 hr) λhc hr=> ?_
 refine gr ?_
 refine S.li [2,6,7,24,25,26] [(2,2)] [(15,15),(10015,10015)] (λs1=>⟨[sR 2 2,sO 6 15,sO 7 10015,(24,.c (.d (aj 3 bU x0))),sI 25 (x0.length:Int),sI 26 s1],[(2,[iC x1,iC x2,.d (aj 2 aQ x3),.d (aj 1 aU x4),.d (aj 1 dh x5),.d (aj 1 dh x6),.d (aj 2 aQ x7),iC x8,iC x9,iC x10,iC x11,.d (aj 2 aQ x12),.d (aj 1 aU cO),.d (aj 1 dh x14),.d (aj 1 dh x15),.d (aj 2 aQ x16),iC x17,iC x18,.d (aj 4 bV x19),.d (aj 5 bI x20),.d (aj 3 bU x21),.d (aj 2 aQ oz),iC x23,iC x24,iC x25,iC uO,.d (aj 3 bU x0),iC x27])],[(15,.owned (aj 2 aQ v1.1)),(10015,.owned (aj 1 aU v1.2.1))]⟩) (KR x1 x2 x3 x4 x5 x6 x7 x8 x9 x10 x11 x12 cO x14 x15 x16 x17 x18 x19 x20 x21 oz x23 x24 x25 uO x0 x27 v1) (λq=>q=r) hr rfl ?_
 intro s1 hr
 unfold KR at hr
 refine S.gw [11,9] ?_
 refine gJ hr (λhc hr=> ?_) λhc hr=> ?_
 ·obtain ⟨hg2,hr⟩:=aH hr
  obtain ⟨hg3,hr⟩:=aH hr
  repeat (first | refine gA ?_ | refine gB ?_)
  refine gJ hr (λhc hr=> ?_) λhc hr=>D1 (S.ss [2,6,7,24,25,26] [(2,2)] [(15,15),(10015,10015)]) hr
  refine gr ?_
  refine S.prune [9] ?_
  refine S.gx [11] ?_
  exact D0 hr
 refine gr ?_
 have hr:=bT hr
 refine gr ?_
 refine S.inl 3 [2] [] func147 (by decide) rfl ntmps147 (λcx e=>bD cZ Xa cx e) (some 55) rfl rfl rfl rfl (nL rfl) (nL rfl) ?_
 refine gs ?_
 obtain ⟨v4,hv4,hr⟩:=aB hr
 refine gb hv4 ?_
 intro stop1 S1
 refine S1.gw [1] ?_
 refine S1.inl 2 [4] [] func204 (by decide) rfl ntmps204 (λcx e=>bD cZ Xa cx e) (some 7) rfl rfl rfl rfl (nL rfl) (nL rfl) ?_
 refine gs ?_
 refine gr ?_
 intro stop2 S2
 refine S2.gw [4] ?_
 refine S2.li [0,1,7,8] [(2,2)] [(53,53)] (λs2=>⟨[sO 0 53,(1,.c (.clo 149 [.ref 2 0])),sI 7 (v4.length:Int),sI 8 s2],[(2,[iC x1,iC x2,.d (aj 2 aQ x3),.d (aj 1 aU x4),.d (aj 1 dh x5),.d (aj 1 dh x6),.d (aj 2 aQ x7),iC x8,iC x9,iC x10,iC x11,.d (aj 2 aQ x12),.d (aj 1 aU cO),.d (aj 1 dh x14),.d (aj 1 dh x15),.d (aj 2 aQ x16),iC x17,iC x18,.d (aj 4 bV x19),.d (aj 5 bI x20),.d (aj 3 bU x21),.d (aj 2 aQ oz),iC x23,iC x24,iC x25,iC uO,.d (aj 3 bU x0),iC x27])],[(53,.owned (aj 2 aQ v4))]⟩) (Io x1 x2 x3 x4 x5 x6 x7 x8 x9 x10 x11 x12 cO x14 x15 x16 x17 x18 x19 x20 x21 oz x23 x24 x25 uO x0 x27 v4) (λq=>q=r) hr rfl ?_
 intro s2 hr
 unfold Io at hr
 refine S2.gw [4] ?_
 refine gJ hr (λhc hr=> ?_) λhc hr=> ?_
 ·refine S2.gx [] ?_
  obtain ⟨hg6,hr⟩:=aH hr
  obtain ⟨v5,hv5,hr⟩:=bf hr
  refine gb hv5 ?_
  refine gr ?_
  refine gJ hr (λhc hr=> ?_) λhc hr=>D1 (S2.ss [0,1,7,8] [(2,2)] [(53,53)]) hr
  refine gr ?_
  have hr:=bT hr
  refine S1.gw [1] ?_
  refine S.gx [11,9] ?_
  exact D0 hr
 refine gr ?_
 have hr:=bT hr
 refine S1.gw [1] ?_
 refine S.gx [11,9] ?_
 exact D0 hr
def r26 (x0 x1:Int) (x2:aA) (x3:au) (x4 x5:aV) (x6:aA) (x7 x8:Int) (x9:aT) (x10:aG) (x11:aJ) (x12:aA) (cO x14 x15 x16:Int) (x17:aJ) (x18:Int) (a1:aA):Option (Int×Int):=
 (r82 x0 x1 x2 x3 x4 x5 x6 x7 x8 x9 x10 x11 x12 cO x14 x15 x16 x17 x18).bind λv1=>
  if (v1.2.2.2.2.2.2.2.2.2.2.2.2.2.2.2.2.2.2.2.2.2.2.2.2.2.2.2.2 == 0)=true then
   (r83 v1.1 v1.2.1 v1.2.2.1 v1.2.2.2.1 v1.2.2.2.2.1 v1.2.2.2.2.2.1 v1.2.2.2.2.2.2.1 v1.2.2.2.2.2.2.2.1 v1.2.2.2.2.2.2.2.2.1 a1).bind λv2=>
    if (v2 != 0)=true then
     some (0,v2)
     else (r85 v1.1 v1.2.1 v1.2.2.1 v1.2.2.2.1 v1.2.2.2.2.1 v1.2.2.2.2.2.1 v1.2.2.2.2.2.2.1 v1.2.2.2.2.2.2.2.1 v1.2.2.2.2.2.2.2.2.1 v1.2.2.2.2.2.2.2.2.2.1 v1.2.2.2.2.2.2.2.2.2.2.1 v1.2.2.2.2.2.2.2.2.2.2.2.1 v1.2.2.2.2.2.2.2.2.2.2.2.2.1 v1.2.2.2.2.2.2.2.2.2.2.2.2.2.1 v1.2.2.2.2.2.2.2.2.2.2.2.2.2.2.1 v1.2.2.2.2.2.2.2.2.2.2.2.2.2.2.2.1 v1.2.2.2.2.2.2.2.2.2.2.2.2.2.2.2.2.1 v1.2.2.2.2.2.2.2.2.2.2.2.2.2.2.2.2.2.1 v1.2.2.2.2.2.2.2.2.2.2.2.2.2.2.2.2.2.2.1 v1.2.2.2.2.2.2.2.2.2.2.2.2.2.2.2.2.2.2.2.1 v1.2.2.2.2.2.2.2.2.2.2.2.2.2.2.2.2.2.2.2.2.1 v1.2.2.2.2.2.2.2.2.2.2.2.2.2.2.2.2.2.2.2.2.2.1 v1.2.2.2.2.2.2.2.2.2.2.2.2.2.2.2.2.2.2.2.2.2.2.1 v1.2.2.2.2.2.2.2.2.2.2.2.2.2.2.2.2.2.2.2.2.2.2.2.1 v1.2.2.2.2.2.2.2.2.2.2.2.2.2.2.2.2.2.2.2.2.2.2.2.2.1 v1.2.2.2.2.2.2.2.2.2.2.2.2.2.2.2.2.2.2.2.2.2.2.2.2.2.1 v1.2.2.2.2.2.2.2.2.2.2.2.2.2.2.2.2.2.2.2.2.2.2.2.2.2.2.1 v1.2.2.2.2.2.2.2.2.2.2.2.2.2.2.2.2.2.2.2.2.2.2.2.2.2.2.2.1 a1).bind λv3=>
      some (v3.1,v3.2)
   else if (v1.2.2.2.2.2.2.2.2.2.2.2.2.2.2.2.2.2.2.2.2.2.2.2.2.2.2.2.2 != 0)=true then
    some (0,v1.2.2.2.2.2.2.2.2.2.2.2.2.2.2.2.2.2.2.2.2.2.2.2.2.2.2.2.2)
    else (r85 v1.1 v1.2.1 v1.2.2.1 v1.2.2.2.1 v1.2.2.2.2.1 v1.2.2.2.2.2.1 v1.2.2.2.2.2.2.1 v1.2.2.2.2.2.2.2.1 v1.2.2.2.2.2.2.2.2.1 v1.2.2.2.2.2.2.2.2.2.1 v1.2.2.2.2.2.2.2.2.2.2.1 v1.2.2.2.2.2.2.2.2.2.2.2.1 v1.2.2.2.2.2.2.2.2.2.2.2.2.1 v1.2.2.2.2.2.2.2.2.2.2.2.2.2.1 v1.2.2.2.2.2.2.2.2.2.2.2.2.2.2.1 v1.2.2.2.2.2.2.2.2.2.2.2.2.2.2.2.1 v1.2.2.2.2.2.2.2.2.2.2.2.2.2.2.2.2.1 v1.2.2.2.2.2.2.2.2.2.2.2.2.2.2.2.2.2.1 v1.2.2.2.2.2.2.2.2.2.2.2.2.2.2.2.2.2.2.1 v1.2.2.2.2.2.2.2.2.2.2.2.2.2.2.2.2.2.2.2.1 v1.2.2.2.2.2.2.2.2.2.2.2.2.2.2.2.2.2.2.2.2.1 v1.2.2.2.2.2.2.2.2.2.2.2.2.2.2.2.2.2.2.2.2.2.1 v1.2.2.2.2.2.2.2.2.2.2.2.2.2.2.2.2.2.2.2.2.2.2.1 v1.2.2.2.2.2.2.2.2.2.2.2.2.2.2.2.2.2.2.2.2.2.2.2.1 v1.2.2.2.2.2.2.2.2.2.2.2.2.2.2.2.2.2.2.2.2.2.2.2.2.1 v1.2.2.2.2.2.2.2.2.2.2.2.2.2.2.2.2.2.2.2.2.2.2.2.2.2.1 v1.2.2.2.2.2.2.2.2.2.2.2.2.2.2.2.2.2.2.2.2.2.2.2.2.2.2.1 v1.2.2.2.2.2.2.2.2.2.2.2.2.2.2.2.2.2.2.2.2.2.2.2.2.2.2.2.1 a1).bind λv4=>
     some (v4.1,v4.2)
@[go_sem] def T26:=akF JM false r26
@[go_sem] def aCa (k:Nat):=lk [(82,T82.sp),(83,T83.sp),(85,T85.sp)] k
theorem f26:aF prog 26 T26.sp:=by
 refine vm (tb:=aCa) (.cons f82 (.cons f83 (.cons f85 .nil))) func26 ntmps26 λ⟨x0,x1,x2,x3,x4,x5,x6,x7,x8,x9,x10,x11,x12,cO,x14,x15,x16,x17,x18,a1⟩ r hr stop S=> ?_
 rw [afv,r26] at hr
 refine S.gx [] ?_
 exact D0 hr
end Go.Proofs.YtnepigpnlnmlmaaGreatDoor

/- Contracts of functions, written by wip/dec. -/
import Derived.Test.YtofkgmldcjagmaaGreatDoorF00
import Derived.Test.YtofkgmldcjagmaaGreatDoorF01
import Derived.Test.YtofkgmldcjagmaaGreatDoorF03
import Derived.Test.YtofkgmldcjagmaaGreatDoorF05
import Derived.Test.YtofkgmldcjagmaaGreatDoorF09
import Derived.Test.YtofkgmldcjagmaaGreatDoorF10
set_option linter.unusedVariables false
set_option linter.unusedSimpArgs false
set_option linter.constructorNameAsVariable false
set_option maxHeartbeats 4000000
set_option maxRecDepth 20000
namespace Go.Proofs.YtofkgmldcjagmaaGreatDoor
open Go.dG
def r6:Option (Bool):=
 (r28).bind fun v1=>
  (r29).bind fun v2=>
   (r27 v1.1 v1.2.1 v1.2.2.1 v1.2.2.2.1 v1.2.2.2.2.1 v1.2.2.2.2.2.1 v1.2.2.2.2.2.2.1 v1.2.2.2.2.2.2.2.1 v1.2.2.2.2.2.2.2.2 v2).bind fun v3=>
    (r31).bind fun v4=>
     (r10 v3.1).bind fun v5=>
      (r30 v4.1 v4.2.1 v4.2.2.1 v4.2.2.2.1 v4.2.2.2.2.1 v4.2.2.2.2.2.1 v4.2.2.2.2.2.2.1 v4.2.2.2.2.2.2.2.1 v4.2.2.2.2.2.2.2.2.1 v4.2.2.2.2.2.2.2.2.2.1 v4.2.2.2.2.2.2.2.2.2.2.1 v4.2.2.2.2.2.2.2.2.2.2.2.1 v4.2.2.2.2.2.2.2.2.2.2.2.2.1 v4.2.2.2.2.2.2.2.2.2.2.2.2.2.1 v4.2.2.2.2.2.2.2.2.2.2.2.2.2.2.1 v4.2.2.2.2.2.2.2.2.2.2.2.2.2.2.2.1 v4.2.2.2.2.2.2.2.2.2.2.2.2.2.2.2.2.1 v4.2.2.2.2.2.2.2.2.2.2.2.2.2.2.2.2.2.1 v4.2.2.2.2.2.2.2.2.2.2.2.2.2.2.2.2.2.2 v5).bind fun v6=>
       (r32 v4.1 v4.2.1 v4.2.2.1 v4.2.2.2.1 v4.2.2.2.2.1 v4.2.2.2.2.2.1 v4.2.2.2.2.2.2.1 v4.2.2.2.2.2.2.2.1 v4.2.2.2.2.2.2.2.2.1 v4.2.2.2.2.2.2.2.2.2.1 v4.2.2.2.2.2.2.2.2.2.2.1 v4.2.2.2.2.2.2.2.2.2.2.2.1 v4.2.2.2.2.2.2.2.2.2.2.2.2.1 v4.2.2.2.2.2.2.2.2.2.2.2.2.2.1 v4.2.2.2.2.2.2.2.2.2.2.2.2.2.2.1 v4.2.2.2.2.2.2.2.2.2.2.2.2.2.2.2.1 v4.2.2.2.2.2.2.2.2.2.2.2.2.2.2.2.2.1 v4.2.2.2.2.2.2.2.2.2.2.2.2.2.2.2.2.2.1 v4.2.2.2.2.2.2.2.2.2.2.2.2.2.2.2.2.2.2 400).bind fun v7=>
        if 1*64≤140737488355328∧1≤9223372036854775807 then
         if (1+1)*64≤140737488355328∧1+1≤9223372036854775807 then
          if (v3.2 == 0)=true→(r34 v3.1).isSome=true then
           if (((v3.2 == 0) && (decide (((r34 v3.1).getD default)=(⟨#[52,48,48,32,48,59,52,48,48,32,48,59,48,32,49,59,48,32,49,59,48,32,49]⟩:ByteArray)))) && (v6.2 == 0))=true→(r35 v6.1 [(800,800),(200,200),(200,200)]).isSome=true then
            if (((((((v3.2 == 0) && (decide (((r34 v3.1).getD default)=(⟨#[52,48,48,32,48,59,52,48,48,32,48,59,48,32,49,59,48,32,49,59,48,32,49]⟩:ByteArray)))) && (v6.2 == 0)) && ((r35 v6.1 [(800,800),(200,200),(200,200)]).getD default)) && (v7.2 == 0)) && (v7.1 == 2)) && ((([(3,400,0,5,650,Hl.nil)]++[(2,0,1,3,0,Hl.nil)]).length:Int) == 2))=true→0≤0∧0<(([(3,400,0,5,650,Hl.nil)]++[(2,0,1,3,0,Hl.nil)]).length:Int) then
             some ((((((((v3.2 == 0) && (decide (((r34 v3.1).getD default)=(⟨#[52,48,48,32,48,59,52,48,48,32,48,59,48,32,49,59,48,32,49,59,48,32,49]⟩:ByteArray)))) && (v6.2 == 0)) && ((r35 v6.1 [(800,800),(200,200),(200,200)]).getD default)) && (v7.2 == 0)) && (v7.1 == 2)) && ((([(3,400,0,5,650,Hl.nil)]++[(2,0,1,3,0,Hl.nil)]).length:Int) == 2)) && (((([(3,400,0,5,650,Hl.nil)]++[(2,0,1,3,0,Hl.nil)]).getD 0 default).1) == 3))
             else none
            else none
           else none
          else none
         else none
@[go_sem] def T6:=qT0 qE false r6
@[go_sem] def tb6 (k:Nat):=lk [(10,T10.sp),(27,T27.sp),(28,T28.sp),(29,T29.sp),(30,T30.sp),(31,T31.sp),(32,T32.sp),(34,T34.sp),(35,T35.sp),(70,T70.sp),(144,avc.sp),(182,auS.sp),(202,auI.sp)] k
theorem gI:fC Tryz.prog tb6:= .cons f10 (.cons f27 (.cons f28 (.cons f29 (.cons f30 (.cons f31 (.cons f32 (.cons f34 (.cons f35 (.cons f70 (.cons f144 (.cons f182 (.cons f202 .nil))))))))))))
theorem Yb {α:Type} [Inhabited α] {s s':Nat} {f:α→List D} {a0 b:α} {c:List D} (h:jg c (f b)):Go.dG.Can s f [a0,b] (D.cat (ah s f [a0]) (D.ofList s' [c]))=True:=lH (l:=[a0]) (r:=[b]) (of_eq_true (rC _)) (of_eq_true (fZ (by simp only [List.map_cons,List.map_nil,nZ]; exact ⟨h,trivial⟩)))
theorem Ya {α:Type} [Inhabited α] {s s':Nat} {f:α→List D} {a0 a1 b:α} {c:List D} (h:jg c (f b)):Go.dG.Can s f [a0,a1,b] (D.cat (ah s f [a0,a1]) (D.ofList s' [c]))=True:=lH (l:=[a0,a1]) (r:=[b]) (of_eq_true (rC _)) (of_eq_true (fZ (by simp only [List.map_cons,List.map_nil,nZ]; exact ⟨h,trivial⟩)))
theorem X9 {α:Type} [Inhabited α] {s s':Nat} {f:α→List D} {a0 a1 a2 b:α} {c:List D} (h:jg c (f b)):Go.dG.Can s f [a0,a1,a2,b] (D.cat (ah s f [a0,a1,a2]) (D.ofList s' [c]))=True:=lH (l:=[a0,a1,a2]) (r:=[b]) (of_eq_true (rC _)) (of_eq_true (fZ (by simp only [List.map_cons,List.map_nil,nZ]; exact ⟨h,trivial⟩)))
theorem X8 {α:Type} [Inhabited α] {s s':Nat} {f:α→List D} {a0 a1 a2 a3 b:α} {c:List D} (h:jg c (f b)):Go.dG.Can s f [a0,a1,a2,a3,b] (D.cat (ah s f [a0,a1,a2,a3]) (D.ofList s' [c]))=True:=lH (l:=[a0,a1,a2,a3]) (r:=[b]) (of_eq_true (rC _)) (of_eq_true (fZ (by simp only [List.map_cons,List.map_nil,nZ]; exact ⟨h,trivial⟩)))
theorem X7 {α:Type} [Inhabited α] {s s':Nat} {f:α→List D} {a0 a1 a2 a3 a4 b:α} {c:List D} (h:jg c (f b)):Go.dG.Can s f [a0,a1,a2,a3,a4,b] (D.cat (ah s f [a0,a1,a2,a3,a4]) (D.ofList s' [c]))=True:=lH (l:=[a0,a1,a2,a3,a4]) (r:=[b]) (of_eq_true (rC _)) (of_eq_true (fZ (by simp only [List.map_cons,List.map_nil,nZ]; exact ⟨h,trivial⟩)))
theorem abP {α:Type} [Inhabited α] {s s':Nat} {f:α→List D} {a0 b:α} {c:List D} {x:D} (hx:Go.dG.Can s f [a0] x) (h:jg c (f b)):Go.dG.Can s f [a0,b] (D.cat x (D.ofList s' [c]))=True:=lH (l:=[a0]) (r:=[b]) hx (of_eq_true (fZ (by simp only [List.map_cons,List.map_nil,nZ]; exact ⟨h,trivial⟩)))
theorem abO {α:Type} [Inhabited α] {s s':Nat} {f:α→List D} {a0 a1 b:α} {c:List D} {x:D} (hx:Go.dG.Can s f [a0,a1] x) (h:jg c (f b)):Go.dG.Can s f [a0,a1,b] (D.cat x (D.ofList s' [c]))=True:=lH (l:=[a0,a1]) (r:=[b]) hx (of_eq_true (fZ (by simp only [List.map_cons,List.map_nil,nZ]; exact ⟨h,trivial⟩)))
theorem abN {α:Type} [Inhabited α] {s s':Nat} {f:α→List D} {a0 a1 a2 b:α} {c:List D} {x:D} (hx:Go.dG.Can s f [a0,a1,a2] x) (h:jg c (f b)):Go.dG.Can s f [a0,a1,a2,b] (D.cat x (D.ofList s' [c]))=True:=lH (l:=[a0,a1,a2]) (r:=[b]) hx (of_eq_true (fZ (by simp only [List.map_cons,List.map_nil,nZ]; exact ⟨h,trivial⟩)))
theorem abM {α:Type} [Inhabited α] {s s':Nat} {f:α→List D} {a0 a1 a2 a3 b:α} {c:List D} {x:D} (hx:Go.dG.Can s f [a0,a1,a2,a3] x) (h:jg c (f b)):Go.dG.Can s f [a0,a1,a2,a3,b] (D.cat x (D.ofList s' [c]))=True:=lH (l:=[a0,a1,a2,a3]) (r:=[b]) hx (of_eq_true (fZ (by simp only [List.map_cons,List.map_nil,nZ]; exact ⟨h,trivial⟩)))
theorem abL {α:Type} [Inhabited α] {s s':Nat} {f:α→List D} {a0 a1 a2 a3 a4 b:α} {c:List D} {x:D} (hx:Go.dG.Can s f [a0,a1,a2,a3,a4] x) (h:jg c (f b)):Go.dG.Can s f [a0,a1,a2,a3,a4,b] (D.cat x (D.ofList s' [c]))=True:=lH (l:=[a0,a1,a2,a3,a4]) (r:=[b]) hx (of_eq_true (fZ (by simp only [List.map_cons,List.map_nil,nZ]; exact ⟨h,trivial⟩)))
attribute [go_sem] Yb abP Ya abO X9 abN X8 abM X7 abL
theorem dcT (h:Decidable True): @decide True h=true:=decide_eq_true trivial
theorem ak9:KI (⟨#[117,110,116,105,108,32,54,53,48,32,52,48,48,32,53,59,113,117,101,110,99,104,32,49,32,51]⟩:ByteArray) (⟨#[32,59,40,41]⟩:ByteArray)=some 5:=by decide +kernel
theorem ak8:Iz (⟨#[32,54,53,48,32,52,48,48,32,53,59,113,117,101,110,99,104,32,49,32,51]⟩:ByteArray) (⟨#[32]⟩:ByteArray)=some ((⟨#[54,53,48,32,52,48,48,32,53,59,113,117,101,110,99,104,32,49,32,51]⟩:ByteArray),true):=by decide +kernel
theorem ak7:KI (⟨#[54,53,48,32,52,48,48,32,53,59,113,117,101,110,99,104,32,49,32,51]⟩:ByteArray) (⟨#[32,59,40,41]⟩:ByteArray)=some 3:=by decide +kernel
theorem ak6:OW (⟨#[54,53,48]⟩:ByteArray)=some (650,true):=by decide +kernel
theorem ak5:Iz (⟨#[32,52,48,48,32,53,59,113,117,101,110,99,104,32,49,32,51]⟩:ByteArray) (⟨#[32]⟩:ByteArray)=some ((⟨#[52,48,48,32,53,59,113,117,101,110,99,104,32,49,32,51]⟩:ByteArray),true):=by decide +kernel
theorem ak4:KI (⟨#[52,48,48,32,53,59,113,117,101,110,99,104,32,49,32,51]⟩:ByteArray) (⟨#[32,59,40,41]⟩:ByteArray)=some 3:=by decide +kernel
theorem ak3:OW (⟨#[52,48,48]⟩:ByteArray)=some (400,true):=by decide +kernel
theorem ak2:Iz (⟨#[32,53,59,113,117,101,110,99,104,32,49,32,51]⟩:ByteArray) (⟨#[32]⟩:ByteArray)=some ((⟨#[53,59,113,117,101,110,99,104,32,49,32,51]⟩:ByteArray),true):=by decide +kernel
theorem ak1:KI (⟨#[53,59,113,117,101,110,99,104,32,49,32,51]⟩:ByteArray) (⟨#[32,59,40,41]⟩:ByteArray)=some 1:=by decide +kernel
theorem ak0:OW (⟨#[53]⟩:ByteArray)=some (5,true):=by decide +kernel
theorem ahd:Iz (⟨#[59,113,117,101,110,99,104,32,49,32,51]⟩:ByteArray) (⟨#[59]⟩:ByteArray)=some ((⟨#[113,117,101,110,99,104,32,49,32,51]⟩:ByteArray),true):=by decide +kernel
theorem ahc:KI (⟨#[113,117,101,110,99,104,32,49,32,51]⟩:ByteArray) (⟨#[32,59,40,41]⟩:ByteArray)=some 6:=by decide +kernel
theorem ahb:Iz (⟨#[32,49,32,51]⟩:ByteArray) (⟨#[32]⟩:ByteArray)=some ((⟨#[49,32,51]⟩:ByteArray),true):=by decide +kernel
theorem aha:KI (⟨#[49,32,51]⟩:ByteArray) (⟨#[32,59,40,41]⟩:ByteArray)=some 1:=by decide +kernel
theorem ag':OW (⟨#[49]⟩:ByteArray)=some (1,true):=by decide +kernel
theorem ag9:Iz (⟨#[32,51]⟩:ByteArray) (⟨#[32]⟩:ByteArray)=some ((⟨#[51]⟩:ByteArray),true):=by decide +kernel
theorem ag8:KI (⟨#[51]⟩:ByteArray) (⟨#[32,59,40,41]⟩:ByteArray)=some (-1):=by decide +kernel
theorem ag7:OW (⟨#[51]⟩:ByteArray)=some (3,true):=by decide +kernel
theorem ag6:Iz (⟨#[]⟩:ByteArray) (⟨#[59]⟩:ByteArray)=some ((⟨#[]⟩:ByteArray),false):=by decide +kernel
theorem ag5:r70 ([(3,400,0,5,650,Hl.nil),(2,0,1,3,0,Hl.nil)])=some (0,0):=by decide +kernel
section
attribute [local go_sem] ak9 ak8 ak7 ak6 ak5 ak4 ak3 ak2 ak1 ak0 ahd ahc ahb aha ag' ag9 ag8 ag7 ag6 ag5 oG oI not_true_eq_false dcT
theorem f6:aF Tryz.prog 6 T6.sp:=by
 refine vm (tb:=tb6) (.cons f10 (.cons f27 (.cons f28 (.cons f29 (.cons f30 (.cons f31 (.cons f32 (.cons f34 (.cons f35 (.cons f70 (.cons f144 (.cons f182 (.cons f202 .nil))))))))))))) Tryz.func6 Tryz.ntmps6 fun _ r hr stop S=> ?_
 rw [uq0,r6] at hr
 refine S.gx [4,5] ?_
 obtain ⟨v1,hv1,hr⟩:=aA hr
 try simp only [List.cons_append,List.nil_append] at hv1
 obtain ⟨v2,hv2,hr⟩:=aA hr
 try simp only [List.cons_append,List.nil_append] at hv2
 obtain ⟨v3,hv3,hr⟩:=aA hr
 try simp only [List.cons_append,List.nil_append] at hv3
 obtain ⟨v4,hv4,hr⟩:=aA hr
 try simp only [List.cons_append,List.nil_append] at hv4
 obtain ⟨v5,hv5,hr⟩:=aA hr
 try simp only [List.cons_append,List.nil_append] at hv5
 obtain ⟨v6,hv6,hr⟩:=aA hr
 try simp only [List.cons_append,List.nil_append] at hv6
 obtain ⟨v7,hv7,hr⟩:=aA hr
 try simp only [List.cons_append,List.nil_append] at hv7
 refine gb hv1 ?_
 refine gb hv2 ?_
 refine gb hv3 ?_
 refine gb hv4 ?_
 refine gb hv5 ?_
 refine gb hv6 ?_
 refine gb hv7 ?_
 refine S.inl 0 [1,2,3,4,5,6] [] Tryz.func33 (by decide) rfl Tryz.ntmps33 (fun cx e=>aT bT gI cx e) (some 28) rfl rfl rfl rfl (nL rfl) (nL rfl) ?_
 refine gs ?_
 refine gr ?_
 intro stop1 S1
 refine S1.gx [4] ?_
 refine gr ?_
 refine S1.inl 0 [4] [] Tryz.func69 (by decide) rfl Tryz.ntmps69 (fun cx e=>aT bT gI cx e) (some 15) rfl rfl rfl rfl (nL rfl) (nL rfl) ?_
 refine gs ?_
 refine gr ?_
 intro stop2 S2
 refine S2.gx [2,6] ?_
 refine gr ?_
 refine S2.lp ?_
 refine S2.gx [2,6] ?_
 refine gr ?_
 refine S2.inl 1 [0,4] [] Tryz.func99 (by decide) rfl Tryz.ntmps99 (fun cx e=>aT bT gI cx e) (some 9) rfl rfl rfl rfl (nL rfl) (nL rfl) ?_
 refine gs ?_
 refine gr ?_
 intro zQ S3
 refine S3.gx [1,9,16,18,20,7] ?_
 refine gr ?_
 refine S3.inl 1 [0,2] [] Tryz.func142 (by decide) rfl Tryz.ntmps142 (fun cx e=>aT bT gI cx e) (some 15) rfl rfl rfl rfl (nL rfl) (nL rfl) ?_
 refine gs ?_
 refine gr ?_
 intro wW S4
 refine S4.gx [1] ?_
 refine gr ?_
 refine S4.inl 1 [] [] Tryz.func181 (by decide) rfl Tryz.ntmps181 (fun cx e=>aT bT gI cx e) (some 8) rfl rfl rfl rfl (nL rfl) (nL rfl) ?_
 refine gs ?_
 refine gr ?_
 intro rH S5
 refine S5.gx [6] ?_
 refine gr ?_
 refine S5.prune [4] ?_
 refine S5.gx [] ?_
 refine gr ?_
 refine gr ?_
 refine gr ?_
 refine S4.gx [1] ?_
 refine gr ?_
 refine S4.lp ?_
 refine S4.gx [1] ?_
 refine gr ?_
 refine S4.lp ?_
 refine S4.gx [1] ?_
 refine gr ?_
 refine S4.lp ?_
 refine S4.gx [1] ?_
 refine gr ?_
 refine S4.lp ?_
 refine S4.gx [1] ?_
 refine gr ?_
 refine gr ?_
 refine S3.gx [1,9,16,18,20,7] ?_
 refine gr ?_
 refine S3.lp ?_
 refine S3.gx [1,9,16,18,20,7] ?_
 refine gr ?_
 refine S3.prune [0,2,4,6,45,46,47] ?_
 refine S3.gx [1,9,16,18,20] ?_
 refine gr ?_
 refine gr ?_
 refine S3.inl 1 [0,2,4,6,9,45,46,47] [] Tryz.func143 (by decide) rfl Tryz.ntmps143 (fun cx e=>aT bT gI cx e) (some 53) rfl rfl rfl rfl (nL rfl) (nL rfl) ?_
 refine gs ?_
 refine gr ?_
 intro wW S4
 refine S4.gx [1,3] ?_
 refine gr ?_
 refine S4.inl 1 [0] [] Tryz.func100 (by decide) rfl Tryz.ntmps100 (fun cx e=>aT bT gI cx e) (some 5) rfl rfl rfl rfl (nL rfl) (nL rfl) ?_
 refine gs ?_
 refine gr ?_
 intro rH S5
 refine S5.gx [] ?_
 refine gr ?_
 refine gr ?_
 refine S4.gx [1,3] ?_
 refine gr ?_
 refine S4.inl 1 [] [] Tryz.func181 (by decide) rfl Tryz.ntmps181 (fun cx e=>aT bT gI cx e) (some 8) rfl rfl rfl rfl (nL rfl) (nL rfl) ?_
 refine gs ?_
 refine gr ?_
 intro rH S5
 refine S5.gx [6] ?_
 refine gr ?_
 refine S5.prune [4] ?_
 refine S5.gx [] ?_
 refine gr ?_
 refine gr ?_
 refine gr ?_
 refine S4.gx [1,3] ?_
 refine gr ?_
 refine gr ?_
 refine S3.gx [1,9,16,18,20,7] ?_
 refine gr ?_
 refine S3.lp ?_
 refine S3.gx [1,9,16,18,20,7] ?_
 refine gr ?_
 refine S3.prune [0,2,4,6,45,46,47] ?_
 refine S3.gx [1,9,16,18,20] ?_
 refine gr ?_
 refine gr ?_
 refine S3.inl 1 [0,2,4,6,9,45,46,47] [] Tryz.func143 (by decide) rfl Tryz.ntmps143 (fun cx e=>aT bT gI cx e) (some 53) rfl rfl rfl rfl (nL rfl) (nL rfl) ?_
 refine gs ?_
 refine gr ?_
 intro wW S4
 refine S4.gx [1,3] ?_
 refine gr ?_
 refine S4.inl 1 [0] [] Tryz.func100 (by decide) rfl Tryz.ntmps100 (fun cx e=>aT bT gI cx e) (some 5) rfl rfl rfl rfl (nL rfl) (nL rfl) ?_
 refine gs ?_
 refine gr ?_
 intro rH S5
 refine S5.gx [] ?_
 refine gr ?_
 refine gr ?_
 refine S4.gx [1,3] ?_
 refine gr ?_
 refine S4.inl 1 [] [] Tryz.func181 (by decide) rfl Tryz.ntmps181 (fun cx e=>aT bT gI cx e) (some 8) rfl rfl rfl rfl (nL rfl) (nL rfl) ?_
 refine gs ?_
 refine gr ?_
 intro rH S5
 refine S5.gx [6] ?_
 refine gr ?_
 refine S5.prune [4] ?_
 refine S5.gx [] ?_
 refine gr ?_
 refine gr ?_
 refine gr ?_
 refine S4.gx [1,3] ?_
 refine gr ?_
 refine gr ?_
 refine S3.gx [1,9,16,18,20,7] ?_
 refine gr ?_
 refine S3.lp ?_
 refine S3.gx [1,9,16,18,20,7] ?_
 refine gr ?_
 refine S3.prune [0,2,4,6,45,46,47] ?_
 refine S3.gx [1,9,16,18,20] ?_
 refine gr ?_
 refine gr ?_
 refine S3.inl 1 [0,2,4,6,9,45,46,47] [] Tryz.func143 (by decide) rfl Tryz.ntmps143 (fun cx e=>aT bT gI cx e) (some 53) rfl rfl rfl rfl (nL rfl) (nL rfl) ?_
 refine gs ?_
 refine gr ?_
 intro wW S4
 refine S4.gx [1,3] ?_
 refine gr ?_
 refine S4.inl 1 [0] [] Tryz.func100 (by decide) rfl Tryz.ntmps100 (fun cx e=>aT bT gI cx e) (some 5) rfl rfl rfl rfl (nL rfl) (nL rfl) ?_
 refine gs ?_
 refine gr ?_
 intro rH S5
 refine S5.gx [] ?_
 refine gr ?_
 refine gr ?_
 refine S4.gx [1,3] ?_
 refine gr ?_
 refine S4.inl 1 [] [] Tryz.func181 (by decide) rfl Tryz.ntmps181 (fun cx e=>aT bT gI cx e) (some 8) rfl rfl rfl rfl (nL rfl) (nL rfl) ?_
 refine gs ?_
 refine gr ?_
 intro rH S5
 refine S5.gx [6] ?_
 refine gr ?_
 refine S5.prune [4] ?_
 refine S5.gx [] ?_
 refine gr ?_
 refine gr ?_
 refine gr ?_
 refine S4.gx [1,3] ?_
 refine gr ?_
 refine gr ?_
 refine S3.gx [1,9,16,18,20,7] ?_
 refine gr ?_
 refine S3.lp ?_
 refine S3.gx [1,9,16,18,20,7] ?_
 refine gr ?_
 refine S3.prune [0,2,4,6,45,46,47] ?_
 refine S3.gx [1,9,16,18,20] ?_
 refine gr ?_
 refine gr ?_
 refine gr ?_
 refine S2.gx [2,6] ?_
 obtain ⟨LY,hr⟩:=aH hr
 refine gr ?_
 refine S2.inl 1 [0,4] [] Tryz.func100 (by decide) rfl Tryz.ntmps100 (fun cx e=>aT bT gI cx e) (some 19) rfl rfl rfl rfl (nL rfl) (nL rfl) ?_
 refine gs ?_
 refine gr ?_
 intro zQ S3
 refine S3.gx [] ?_
 refine gr ?_
 refine gr ?_
 refine S2.gx [2,6] ?_
 refine gr ?_
 refine S2.lp ?_
 refine S2.gx [2,6] ?_
 refine gr ?_
 refine S2.inl 1 [0,4] [] Tryz.func99 (by decide) rfl Tryz.ntmps99 (fun cx e=>aT bT gI cx e) (some 9) rfl rfl rfl rfl (nL rfl) (nL rfl) ?_
 refine gs ?_
 refine gr ?_
 intro zQ S3
 refine S3.gx [1,9,16,18,20,7] ?_
 refine gr ?_
 refine S3.inl 1 [0,2] [] Tryz.func142 (by decide) rfl Tryz.ntmps142 (fun cx e=>aT bT gI cx e) (some 15) rfl rfl rfl rfl (nL rfl) (nL rfl) ?_
 refine gs ?_
 refine gr ?_
 intro wW S4
 refine S4.gx [1] ?_
 refine gr ?_
 refine S4.inl 1 [] [] Tryz.func181 (by decide) rfl Tryz.ntmps181 (fun cx e=>aT bT gI cx e) (some 8) rfl rfl rfl rfl (nL rfl) (nL rfl) ?_
 refine gs ?_
 refine gr ?_
 intro rH S5
 refine S5.gx [6] ?_
 refine gr ?_
 refine S5.prune [4] ?_
 refine S5.gx [] ?_
 refine gr ?_
 refine gr ?_
 refine gr ?_
 refine S4.gx [1] ?_
 refine gr ?_
 refine S4.lp ?_
 refine S4.gx [1] ?_
 refine gr ?_
 refine S4.lp ?_
 refine S4.gx [1] ?_
 refine gr ?_
 refine S4.lp ?_
 refine S4.gx [1] ?_
 refine gr ?_
 refine gr ?_
 refine S3.gx [1,9,16,18,20,7] ?_
 refine gr ?_
 refine S3.lp ?_
 refine S3.gx [1,9,16,18,20,7] ?_
 refine gr ?_
 refine S3.prune [0,2,4,6,45,46,47] ?_
 refine S3.gx [1,9,16,18,20] ?_
 refine gr ?_
 refine gr ?_
 refine S3.inl 1 [0,2,4,6,9,45,46,47] [] Tryz.func143 (by decide) rfl Tryz.ntmps143 (fun cx e=>aT bT gI cx e) (some 53) rfl rfl rfl rfl (nL rfl) (nL rfl) ?_
 refine gs ?_
 refine gr ?_
 intro wW S4
 refine S4.gx [1,3] ?_
 refine gr ?_
 refine S4.inl 1 [0] [] Tryz.func100 (by decide) rfl Tryz.ntmps100 (fun cx e=>aT bT gI cx e) (some 5) rfl rfl rfl rfl (nL rfl) (nL rfl) ?_
 refine gs ?_
 refine gr ?_
 intro rH S5
 refine S5.gx [] ?_
 refine gr ?_
 refine gr ?_
 refine S4.gx [1,3] ?_
 refine gr ?_
 refine S4.inl 1 [] [] Tryz.func181 (by decide) rfl Tryz.ntmps181 (fun cx e=>aT bT gI cx e) (some 8) rfl rfl rfl rfl (nL rfl) (nL rfl) ?_
 refine gs ?_
 refine gr ?_
 intro rH S5
 refine S5.gx [6] ?_
 refine gr ?_
 refine S5.prune [4] ?_
 refine S5.gx [] ?_
 refine gr ?_
 refine gr ?_
 refine gr ?_
 refine S4.gx [1,3] ?_
 refine gr ?_
 refine gr ?_
 refine S3.gx [1,9,16,18,20,7] ?_
 refine gr ?_
 refine S3.lp ?_
 refine S3.gx [1,9,16,18,20,7] ?_
 refine gr ?_
 refine S3.prune [0,2,4,6,45,46,47] ?_
 refine S3.gx [1,9,16,18,20] ?_
 refine gr ?_
 refine gr ?_
 refine S3.inl 1 [0,2,4,6,9,45,46,47] [] Tryz.func143 (by decide) rfl Tryz.ntmps143 (fun cx e=>aT bT gI cx e) (some 53) rfl rfl rfl rfl (nL rfl) (nL rfl) ?_
 refine gs ?_
 refine gr ?_
 intro wW S4
 refine S4.gx [1,3] ?_
 refine gr ?_
 refine S4.inl 1 [0] [] Tryz.func100 (by decide) rfl Tryz.ntmps100 (fun cx e=>aT bT gI cx e) (some 5) rfl rfl rfl rfl (nL rfl) (nL rfl) ?_
 refine gs ?_
 refine gr ?_
 intro rH S5
 refine S5.gx [] ?_
 refine gr ?_
 refine gr ?_
 refine S4.gx [1,3] ?_
 refine gr ?_
 refine S4.inl 1 [] [] Tryz.func181 (by decide) rfl Tryz.ntmps181 (fun cx e=>aT bT gI cx e) (some 8) rfl rfl rfl rfl (nL rfl) (nL rfl) ?_
 refine gs ?_
 refine gr ?_
 intro rH S5
 refine S5.gx [6] ?_
 refine gr ?_
 refine S5.prune [4] ?_
 refine S5.gx [] ?_
 refine gr ?_
 refine gr ?_
 refine gr ?_
 refine S4.gx [1,3] ?_
 refine gr ?_
 refine gr ?_
 refine S3.gx [1,9,16,18,20,7] ?_
 refine gr ?_
 refine S3.lp ?_
 refine S3.gx [1,9,16,18,20,7] ?_
 refine gr ?_
 refine S3.prune [0,2,4,6,45,46,47] ?_
 refine S3.gx [1,9,16,18,20] ?_
 refine gr ?_
 refine gr ?_
 refine gr ?_
 refine S2.gx [2,6] ?_
 obtain ⟨LZ,hr⟩:=aH hr
 refine gr ?_
 refine S2.inl 1 [0,4] [] Tryz.func100 (by decide) rfl Tryz.ntmps100 (fun cx e=>aT bT gI cx e) (some 19) rfl rfl rfl rfl (nL rfl) (nL rfl) ?_
 refine gs ?_
 refine gr ?_
 intro zQ S3
 refine S3.gx [] ?_
 refine gr ?_
 refine gr ?_
 refine S2.gx [2,6] ?_
 refine gr ?_
 refine gr ?_
 refine S1.gx [4] ?_
 repeat (first | refine gA ?_ | refine gB ?_)
 refine gr ?_
 refine S.gx [4,5] ?_
 refine gr ?_
 refine S.sees [1,2,3,4,5,6,7,8] [] [(12,12),(19,19),(100017,100017)] (st':=⟨[(1,.c (.own 12)),(2,.c (.d (.int .i64 v3.2))),(3,.c (.own 19)),(4,.c (.d (.int .i64 v6.2))),(5,.c (.d (.int .i64 v7.1))),(6,.c (.d (.int .i64 v7.2))),(7,.c (.own 100017)),(8,.c (.d (.int .i64 0)))],[],[(12,.owned (ah 2 aO v3.1)),(19,.owned (ah 2 aO v6.1)),(100017,.owned (ah 6 bF ([(3,400,0,5,650,Hl.nil)]++[(2,0,1,3,0,Hl.nil)])))]⟩) ?_ ?_
 ·exact lf
 ·refine S.gx [4] ?_
  obtain ⟨Vt,hr⟩:=aH hr
  obtain ⟨hg9,hr⟩:=aH hr
  obtain ⟨Dw,hr⟩:=aH hr
  repeat (first | refine gG Vt ?_ | refine gG hg9 ?_ | refine gG Dw ?_ | refine gA ?_ | refine gB ?_)
  exact D0 hr
end
end Go.Proofs.YtofkgmldcjagmaaGreatDoor

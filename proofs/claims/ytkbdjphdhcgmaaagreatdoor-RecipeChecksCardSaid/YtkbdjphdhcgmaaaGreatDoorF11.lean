/- Contracts of functions, written by wip/dec. -/
import Derived.Test.YtkbdjphdhcgmaaaGreatDoorF00
import Derived.Test.YtkbdjphdhcgmaaaGreatDoorF01
import Derived.Test.YtkbdjphdhcgmaaaGreatDoorF03
import Derived.Test.YtkbdjphdhcgmaaaGreatDoorF05
import Derived.Test.YtkbdjphdhcgmaaaGreatDoorF09
import Derived.Test.YtkbdjphdhcgmaaaGreatDoorF10
set_option linter.unusedVariables false
set_option linter.unusedSimpArgs false
set_option linter.constructorNameAsVariable false
set_option maxHeartbeats 4000000
set_option maxRecDepth 20000
namespace Go.Proofs.YtkbdjphdhcgmaaaGreatDoor
open Go.Abs
def r6:Option (Bool):=
 (r26).bind fun v1=>
  (r27).bind fun v2=>
   (r15 v1.1 v1.2.1 v1.2.2.1 v1.2.2.2.1 v1.2.2.2.2.1 v1.2.2.2.2.2.1 v1.2.2.2.2.2.2.1 v1.2.2.2.2.2.2.2.1 v1.2.2.2.2.2.2.2.2 v2).bind fun v3=>
    (r29).bind fun v4=>
     (r30 v3.1).bind fun v5=>
      (r28 v4.1 v4.2.1 v4.2.2.1 v4.2.2.2.1 v4.2.2.2.2.1 v4.2.2.2.2.2.1 v4.2.2.2.2.2.2.1 v4.2.2.2.2.2.2.2.1 v4.2.2.2.2.2.2.2.2.1 v4.2.2.2.2.2.2.2.2.2.1 v4.2.2.2.2.2.2.2.2.2.2.1 v4.2.2.2.2.2.2.2.2.2.2.2.1 v4.2.2.2.2.2.2.2.2.2.2.2.2.1 v4.2.2.2.2.2.2.2.2.2.2.2.2.2.1 v4.2.2.2.2.2.2.2.2.2.2.2.2.2.2.1 v4.2.2.2.2.2.2.2.2.2.2.2.2.2.2.2.1 v4.2.2.2.2.2.2.2.2.2.2.2.2.2.2.2.2.1 v4.2.2.2.2.2.2.2.2.2.2.2.2.2.2.2.2.2.1 v4.2.2.2.2.2.2.2.2.2.2.2.2.2.2.2.2.2.2 v5).bind fun v6=>
       (r31 v4.1 v4.2.1 v4.2.2.1 v4.2.2.2.1 v4.2.2.2.2.1 v4.2.2.2.2.2.1 v4.2.2.2.2.2.2.1 v4.2.2.2.2.2.2.2.1 v4.2.2.2.2.2.2.2.2.1 v4.2.2.2.2.2.2.2.2.2.1 v4.2.2.2.2.2.2.2.2.2.2.1 v4.2.2.2.2.2.2.2.2.2.2.2.1 v4.2.2.2.2.2.2.2.2.2.2.2.2.1 v4.2.2.2.2.2.2.2.2.2.2.2.2.2.1 v4.2.2.2.2.2.2.2.2.2.2.2.2.2.2.1 v4.2.2.2.2.2.2.2.2.2.2.2.2.2.2.2.1 v4.2.2.2.2.2.2.2.2.2.2.2.2.2.2.2.2.1 v4.2.2.2.2.2.2.2.2.2.2.2.2.2.2.2.2.2.1 v4.2.2.2.2.2.2.2.2.2.2.2.2.2.2.2.2.2.2 400).bind fun v7=>
        if 1*64≤140737488355328∧1≤9223372036854775807 then
         if (1+1)*64≤140737488355328∧1+1≤9223372036854775807 then
          if (v3.2 == 0)=true→(r33 v3.1).isSome=true then
           if (((v3.2 == 0) && (decide (((r33 v3.1).getD default)=(⟨#[52,48,48,32,48,59,52,48,48,32,48,59,48,32,49,59,48,32,49,59,48,32,49]⟩:ByteArray)))) && (v6.2 == 0))=true→(r34 v6.1 [(800,800),(200,200),(200,200)]).isSome=true then
            if (((((((v3.2 == 0) && (decide (((r33 v3.1).getD default)=(⟨#[52,48,48,32,48,59,52,48,48,32,48,59,48,32,49,59,48,32,49,59,48,32,49]⟩:ByteArray)))) && (v6.2 == 0)) && ((r34 v6.1 [(800,800),(200,200),(200,200)]).getD default)) && (v7.2 == 0)) && (v7.1 == 2)) && ((([(3,400,0,5,650,Hl.nil)]++[(2,0,1,3,0,Hl.nil)]).length:Int) == 2))=true→0≤0∧0<(([(3,400,0,5,650,Hl.nil)]++[(2,0,1,3,0,Hl.nil)]).length:Int) then
             some ((((((((v3.2 == 0) && (decide (((r33 v3.1).getD default)=(⟨#[52,48,48,32,48,59,52,48,48,32,48,59,48,32,49,59,48,32,49,59,48,32,49]⟩:ByteArray)))) && (v6.2 == 0)) && ((r34 v6.1 [(800,800),(200,200),(200,200)]).getD default)) && (v7.2 == 0)) && (v7.1 == 2)) && ((([(3,400,0,5,650,Hl.nil)]++[(2,0,1,3,0,Hl.nil)]).length:Int) == 2)) && (((([(3,400,0,5,650,Hl.nil)]++[(2,0,1,3,0,Hl.nil)]).getD 0 default).1) == 3))
             else none
            else none
           else none
          else none
         else none
@[go_sem] def T6:=qT0 qu2 false r6
@[go_sem] def tb6 (k:Nat):=lk [(8,T8.sp),(15,T15.sp),(26,T26.sp),(27,T27.sp),(28,T28.sp),(29,T29.sp),(30,T30.sp),(31,T31.sp),(33,T33.sp),(34,T34.sp),(136,T136.sp),(182,T182.sp),(205,T205.sp)] k
theorem tb6_ok:FnsOk Tryz.prog tb6:= .cons f8 (.cons f15 (.cons f26 (.cons f27 (.cons f28 (.cons f29 (.cons f30 (.cons f31 (.cons f33 (.cons f34 (.cons f136 (.cons f182 (.cons f205 .nil))))))))))))
theorem can_snoc1 {α:Type} [Inhabited α] {s s':Nat} {f:α→List D} {a0 b:α} {c:List D} (h:eqvDs c (f b)):Go.Abs.Can s f [a0,b] (D.cat (encF s f [a0]) (D.ofList s' [c]))=True:=can_cat (l:=[a0]) (r:=[b]) (of_eq_true (can_enc _)) (of_eq_true (canW_ofList (by simp only [List.map_cons,List.map_nil,eqvLL]; exact ⟨h,trivial⟩)))
theorem can_snoc2 {α:Type} [Inhabited α] {s s':Nat} {f:α→List D} {a0 a1 b:α} {c:List D} (h:eqvDs c (f b)):Go.Abs.Can s f [a0,a1,b] (D.cat (encF s f [a0,a1]) (D.ofList s' [c]))=True:=can_cat (l:=[a0,a1]) (r:=[b]) (of_eq_true (can_enc _)) (of_eq_true (canW_ofList (by simp only [List.map_cons,List.map_nil,eqvLL]; exact ⟨h,trivial⟩)))
theorem can_snoc3 {α:Type} [Inhabited α] {s s':Nat} {f:α→List D} {a0 a1 a2 b:α} {c:List D} (h:eqvDs c (f b)):Go.Abs.Can s f [a0,a1,a2,b] (D.cat (encF s f [a0,a1,a2]) (D.ofList s' [c]))=True:=can_cat (l:=[a0,a1,a2]) (r:=[b]) (of_eq_true (can_enc _)) (of_eq_true (canW_ofList (by simp only [List.map_cons,List.map_nil,eqvLL]; exact ⟨h,trivial⟩)))
theorem can_snoc4 {α:Type} [Inhabited α] {s s':Nat} {f:α→List D} {a0 a1 a2 a3 b:α} {c:List D} (h:eqvDs c (f b)):Go.Abs.Can s f [a0,a1,a2,a3,b] (D.cat (encF s f [a0,a1,a2,a3]) (D.ofList s' [c]))=True:=can_cat (l:=[a0,a1,a2,a3]) (r:=[b]) (of_eq_true (can_enc _)) (of_eq_true (canW_ofList (by simp only [List.map_cons,List.map_nil,eqvLL]; exact ⟨h,trivial⟩)))
theorem can_snoc5 {α:Type} [Inhabited α] {s s':Nat} {f:α→List D} {a0 a1 a2 a3 a4 b:α} {c:List D} (h:eqvDs c (f b)):Go.Abs.Can s f [a0,a1,a2,a3,a4,b] (D.cat (encF s f [a0,a1,a2,a3,a4]) (D.ofList s' [c]))=True:=can_cat (l:=[a0,a1,a2,a3,a4]) (r:=[b]) (of_eq_true (can_enc _)) (of_eq_true (canW_ofList (by simp only [List.map_cons,List.map_nil,eqvLL]; exact ⟨h,trivial⟩)))
theorem can_sng1 {α:Type} [Inhabited α] {s s':Nat} {f:α→List D} {a0 b:α} {c:List D} {x:D} (hx:Go.Abs.Can s f [a0] x) (h:eqvDs c (f b)):Go.Abs.Can s f [a0,b] (D.cat x (D.ofList s' [c]))=True:=can_cat (l:=[a0]) (r:=[b]) hx (of_eq_true (canW_ofList (by simp only [List.map_cons,List.map_nil,eqvLL]; exact ⟨h,trivial⟩)))
theorem can_sng2 {α:Type} [Inhabited α] {s s':Nat} {f:α→List D} {a0 a1 b:α} {c:List D} {x:D} (hx:Go.Abs.Can s f [a0,a1] x) (h:eqvDs c (f b)):Go.Abs.Can s f [a0,a1,b] (D.cat x (D.ofList s' [c]))=True:=can_cat (l:=[a0,a1]) (r:=[b]) hx (of_eq_true (canW_ofList (by simp only [List.map_cons,List.map_nil,eqvLL]; exact ⟨h,trivial⟩)))
theorem can_sng3 {α:Type} [Inhabited α] {s s':Nat} {f:α→List D} {a0 a1 a2 b:α} {c:List D} {x:D} (hx:Go.Abs.Can s f [a0,a1,a2] x) (h:eqvDs c (f b)):Go.Abs.Can s f [a0,a1,a2,b] (D.cat x (D.ofList s' [c]))=True:=can_cat (l:=[a0,a1,a2]) (r:=[b]) hx (of_eq_true (canW_ofList (by simp only [List.map_cons,List.map_nil,eqvLL]; exact ⟨h,trivial⟩)))
theorem can_sng4 {α:Type} [Inhabited α] {s s':Nat} {f:α→List D} {a0 a1 a2 a3 b:α} {c:List D} {x:D} (hx:Go.Abs.Can s f [a0,a1,a2,a3] x) (h:eqvDs c (f b)):Go.Abs.Can s f [a0,a1,a2,a3,b] (D.cat x (D.ofList s' [c]))=True:=can_cat (l:=[a0,a1,a2,a3]) (r:=[b]) hx (of_eq_true (canW_ofList (by simp only [List.map_cons,List.map_nil,eqvLL]; exact ⟨h,trivial⟩)))
theorem can_sng5 {α:Type} [Inhabited α] {s s':Nat} {f:α→List D} {a0 a1 a2 a3 a4 b:α} {c:List D} {x:D} (hx:Go.Abs.Can s f [a0,a1,a2,a3,a4] x) (h:eqvDs c (f b)):Go.Abs.Can s f [a0,a1,a2,a3,a4,b] (D.cat x (D.ofList s' [c]))=True:=can_cat (l:=[a0,a1,a2,a3,a4]) (r:=[b]) hx (of_eq_true (canW_ofList (by simp only [List.map_cons,List.map_nil,eqvLL]; exact ⟨h,trivial⟩)))
attribute [go_sem] can_snoc1 can_sng1 can_snoc2 can_sng2 can_snoc3 can_sng3 can_snoc4 can_sng4 can_snoc5 can_sng5
theorem dcT (h:Decidable True): @decide True h=true:=decide_eq_true trivial
theorem wc6_0:r205 (⟨#[117,110,116,105,108,32,54,53,48,32,52,48,48,32,53,59,113,117,101,110,99,104,32,49,32,51]⟩:ByteArray) (⟨#[32,59,40,41]⟩:ByteArray)=some 5:=by decide +kernel
theorem wc6_1:r136 (⟨#[32,54,53,48,32,52,48,48,32,53,59,113,117,101,110,99,104,32,49,32,51]⟩:ByteArray) (⟨#[32]⟩:ByteArray)=some ((⟨#[54,53,48,32,52,48,48,32,53,59,113,117,101,110,99,104,32,49,32,51]⟩:ByteArray),true):=by decide +kernel
theorem wc6_2:r205 (⟨#[54,53,48,32,52,48,48,32,53,59,113,117,101,110,99,104,32,49,32,51]⟩:ByteArray) (⟨#[32,59,40,41]⟩:ByteArray)=some 3:=by decide +kernel
theorem wc6_3:r182 (⟨#[54,53,48]⟩:ByteArray)=some (650,true):=by decide +kernel
theorem wc6_4:r136 (⟨#[32,52,48,48,32,53,59,113,117,101,110,99,104,32,49,32,51]⟩:ByteArray) (⟨#[32]⟩:ByteArray)=some ((⟨#[52,48,48,32,53,59,113,117,101,110,99,104,32,49,32,51]⟩:ByteArray),true):=by decide +kernel
theorem wc6_5:r205 (⟨#[52,48,48,32,53,59,113,117,101,110,99,104,32,49,32,51]⟩:ByteArray) (⟨#[32,59,40,41]⟩:ByteArray)=some 3:=by decide +kernel
theorem wc6_6:r182 (⟨#[52,48,48]⟩:ByteArray)=some (400,true):=by decide +kernel
theorem wc6_7:r136 (⟨#[32,53,59,113,117,101,110,99,104,32,49,32,51]⟩:ByteArray) (⟨#[32]⟩:ByteArray)=some ((⟨#[53,59,113,117,101,110,99,104,32,49,32,51]⟩:ByteArray),true):=by decide +kernel
theorem wc6_8:r205 (⟨#[53,59,113,117,101,110,99,104,32,49,32,51]⟩:ByteArray) (⟨#[32,59,40,41]⟩:ByteArray)=some 1:=by decide +kernel
theorem wc6_9:r182 (⟨#[53]⟩:ByteArray)=some (5,true):=by decide +kernel
theorem wc6_10:r136 (⟨#[59,113,117,101,110,99,104,32,49,32,51]⟩:ByteArray) (⟨#[59]⟩:ByteArray)=some ((⟨#[113,117,101,110,99,104,32,49,32,51]⟩:ByteArray),true):=by decide +kernel
theorem wc6_11:r205 (⟨#[113,117,101,110,99,104,32,49,32,51]⟩:ByteArray) (⟨#[32,59,40,41]⟩:ByteArray)=some 6:=by decide +kernel
theorem wc6_12:r136 (⟨#[32,49,32,51]⟩:ByteArray) (⟨#[32]⟩:ByteArray)=some ((⟨#[49,32,51]⟩:ByteArray),true):=by decide +kernel
theorem wc6_13:r205 (⟨#[49,32,51]⟩:ByteArray) (⟨#[32,59,40,41]⟩:ByteArray)=some 1:=by decide +kernel
theorem wc6_14:r182 (⟨#[49]⟩:ByteArray)=some (1,true):=by decide +kernel
theorem wc6_15:r136 (⟨#[32,51]⟩:ByteArray) (⟨#[32]⟩:ByteArray)=some ((⟨#[51]⟩:ByteArray),true):=by decide +kernel
theorem wc6_16:r205 (⟨#[51]⟩:ByteArray) (⟨#[32,59,40,41]⟩:ByteArray)=some (-1):=by decide +kernel
theorem wc6_17:r182 (⟨#[51]⟩:ByteArray)=some (3,true):=by decide +kernel
theorem wc6_18:r136 (⟨#[]⟩:ByteArray) (⟨#[59]⟩:ByteArray)=some ((⟨#[]⟩:ByteArray),false):=by decide +kernel
theorem wc6_19:r8 ([(3,400,0,5,650,Hl.nil),(2,0,1,3,0,Hl.nil)])=some (0,0):=by decide +kernel
section
attribute [local go_sem] wc6_0 wc6_1 wc6_2 wc6_3 wc6_4 wc6_5 wc6_6 wc6_7 wc6_8 wc6_9 wc6_10 wc6_11 wc6_12 wc6_13 wc6_14 wc6_15 wc6_16 wc6_17 wc6_18 wc6_19 oG oI not_true_eq_false dcT
theorem f6:FnFact Tryz.prog 6 T6.sp:=by
 refine vm (tb:=tb6) (.cons f8 (.cons f15 (.cons f26 (.cons f27 (.cons f28 (.cons f29 (.cons f30 (.cons f31 (.cons f33 (.cons f34 (.cons f136 (.cons f182 (.cons f205 .nil))))))))))))) Tryz.func6 Tryz.ntmps6 fun _ r hr stop S=> ?_
 rw [uq0,r6] at hr
 refine S.gx [4,5] ?_
 obtain ⟨v1,hv1,hr⟩:=of_bind0 hr
 try simp only [List.cons_append,List.nil_append] at hv1
 obtain ⟨v2,hv2,hr⟩:=of_bind0 hr
 try simp only [List.cons_append,List.nil_append] at hv2
 obtain ⟨v3,hv3,hr⟩:=of_bind0 hr
 try simp only [List.cons_append,List.nil_append] at hv3
 obtain ⟨v4,hv4,hr⟩:=of_bind0 hr
 try simp only [List.cons_append,List.nil_append] at hv4
 obtain ⟨v5,hv5,hr⟩:=of_bind0 hr
 try simp only [List.cons_append,List.nil_append] at hv5
 obtain ⟨v6,hv6,hr⟩:=of_bind0 hr
 try simp only [List.cons_append,List.nil_append] at hv6
 obtain ⟨v7,hv7,hr⟩:=of_bind0 hr
 try simp only [List.cons_append,List.nil_append] at hv7
 refine gb hv1 ?_
 refine gb hv2 ?_
 refine gb hv3 ?_
 refine gb hv4 ?_
 refine gb hv5 ?_
 refine gb hv6 ?_
 refine gb hv7 ?_
 refine S.inl 0 [1,2,3,4,5,6] [] Tryz.func32 (by decide) rfl Tryz.ntmps32 (fun cx e=>drawn_ok ty_ok tb6_ok cx e) (some 28) rfl rfl rfl rfl (nL rfl) (nL rfl) ?_
 refine gs ?_
 refine gr ?_
 intro stop1 S1
 refine S1.gx [4] ?_
 refine gr ?_
 refine S1.inl 0 [4] [] Tryz.func64 (by decide) rfl Tryz.ntmps64 (fun cx e=>drawn_ok ty_ok tb6_ok cx e) (some 15) rfl rfl rfl rfl (nL rfl) (nL rfl) ?_
 refine gs ?_
 refine gr ?_
 intro stop2 S2
 refine S2.gx [2,6] ?_
 refine gr ?_
 refine S2.lp ?_
 refine S2.gx [2,6] ?_
 refine gr ?_
 refine S2.inl 1 [0,4] [] Tryz.func90 (by decide) rfl Tryz.ntmps90 (fun cx e=>drawn_ok ty_ok tb6_ok cx e) (some 9) rfl rfl rfl rfl (nL rfl) (nL rfl) ?_
 refine gs ?_
 refine gr ?_
 intro stop3 S3
 refine S3.gx [1,9,16,18,20,7] ?_
 refine gr ?_
 refine S3.inl 1 [0,2] [] Tryz.func134 (by decide) rfl Tryz.ntmps134 (fun cx e=>drawn_ok ty_ok tb6_ok cx e) (some 15) rfl rfl rfl rfl (nL rfl) (nL rfl) ?_
 refine gs ?_
 refine gr ?_
 intro stop4 S4
 refine S4.gx [1] ?_
 refine gr ?_
 refine S4.inl 1 [] [] Tryz.func181 (by decide) rfl Tryz.ntmps181 (fun cx e=>drawn_ok ty_ok tb6_ok cx e) (some 8) rfl rfl rfl rfl (nL rfl) (nL rfl) ?_
 refine gs ?_
 refine gr ?_
 intro stop5 S5
 refine S5.gx [6] ?_
 refine gr ?_
 refine S5.prune [4] ?_
 refine S5.gx [] ?_
 refine gr ?_
 refine gr ?_
 refine gr ?_
 refine S4.gx [1] ?_
 refine gr ?_
 refine S4.lp ?_
 refine S4.gx [1] ?_
 refine gr ?_
 refine S4.lp ?_
 refine S4.gx [1] ?_
 refine gr ?_
 refine S4.lp ?_
 refine S4.gx [1] ?_
 refine gr ?_
 refine S4.lp ?_
 refine S4.gx [1] ?_
 refine gr ?_
 refine gr ?_
 refine S3.gx [1,9,16,18,20,7] ?_
 refine gr ?_
 refine S3.lp ?_
 refine S3.gx [1,9,16,18,20,7] ?_
 refine gr ?_
 refine S3.prune [0,2,4,6,45,46,47] ?_
 refine S3.gx [1,9,16,18,20] ?_
 refine gr ?_
 refine gr ?_
 refine S3.inl 1 [0,2,4,6,9,45,46,47] [] Tryz.func135 (by decide) rfl Tryz.ntmps135 (fun cx e=>drawn_ok ty_ok tb6_ok cx e) (some 53) rfl rfl rfl rfl (nL rfl) (nL rfl) ?_
 refine gs ?_
 refine gr ?_
 intro stop4 S4
 refine S4.gx [1,3] ?_
 refine gr ?_
 refine S4.inl 1 [0] [] Tryz.func91 (by decide) rfl Tryz.ntmps91 (fun cx e=>drawn_ok ty_ok tb6_ok cx e) (some 5) rfl rfl rfl rfl (nL rfl) (nL rfl) ?_
 refine gs ?_
 refine gr ?_
 intro stop5 S5
 refine S5.gx [] ?_
 refine gr ?_
 refine gr ?_
 refine S4.gx [1,3] ?_
 refine gr ?_
 refine S4.inl 1 [] [] Tryz.func181 (by decide) rfl Tryz.ntmps181 (fun cx e=>drawn_ok ty_ok tb6_ok cx e) (some 8) rfl rfl rfl rfl (nL rfl) (nL rfl) ?_
 refine gs ?_
 refine gr ?_
 intro stop5 S5
 refine S5.gx [6] ?_
 refine gr ?_
 refine S5.prune [4] ?_
 refine S5.gx [] ?_
 refine gr ?_
 refine gr ?_
 refine gr ?_
 refine S4.gx [1,3] ?_
 refine gr ?_
 refine gr ?_
 refine S3.gx [1,9,16,18,20,7] ?_
 refine gr ?_
 refine S3.lp ?_
 refine S3.gx [1,9,16,18,20,7] ?_
 refine gr ?_
 refine S3.prune [0,2,4,6,45,46,47] ?_
 refine S3.gx [1,9,16,18,20] ?_
 refine gr ?_
 refine gr ?_
 refine S3.inl 1 [0,2,4,6,9,45,46,47] [] Tryz.func135 (by decide) rfl Tryz.ntmps135 (fun cx e=>drawn_ok ty_ok tb6_ok cx e) (some 53) rfl rfl rfl rfl (nL rfl) (nL rfl) ?_
 refine gs ?_
 refine gr ?_
 intro stop4 S4
 refine S4.gx [1,3] ?_
 refine gr ?_
 refine S4.inl 1 [0] [] Tryz.func91 (by decide) rfl Tryz.ntmps91 (fun cx e=>drawn_ok ty_ok tb6_ok cx e) (some 5) rfl rfl rfl rfl (nL rfl) (nL rfl) ?_
 refine gs ?_
 refine gr ?_
 intro stop5 S5
 refine S5.gx [] ?_
 refine gr ?_
 refine gr ?_
 refine S4.gx [1,3] ?_
 refine gr ?_
 refine S4.inl 1 [] [] Tryz.func181 (by decide) rfl Tryz.ntmps181 (fun cx e=>drawn_ok ty_ok tb6_ok cx e) (some 8) rfl rfl rfl rfl (nL rfl) (nL rfl) ?_
 refine gs ?_
 refine gr ?_
 intro stop5 S5
 refine S5.gx [6] ?_
 refine gr ?_
 refine S5.prune [4] ?_
 refine S5.gx [] ?_
 refine gr ?_
 refine gr ?_
 refine gr ?_
 refine S4.gx [1,3] ?_
 refine gr ?_
 refine gr ?_
 refine S3.gx [1,9,16,18,20,7] ?_
 refine gr ?_
 refine S3.lp ?_
 refine S3.gx [1,9,16,18,20,7] ?_
 refine gr ?_
 refine S3.prune [0,2,4,6,45,46,47] ?_
 refine S3.gx [1,9,16,18,20] ?_
 refine gr ?_
 refine gr ?_
 refine S3.inl 1 [0,2,4,6,9,45,46,47] [] Tryz.func135 (by decide) rfl Tryz.ntmps135 (fun cx e=>drawn_ok ty_ok tb6_ok cx e) (some 53) rfl rfl rfl rfl (nL rfl) (nL rfl) ?_
 refine gs ?_
 refine gr ?_
 intro stop4 S4
 refine S4.gx [1,3] ?_
 refine gr ?_
 refine S4.inl 1 [0] [] Tryz.func91 (by decide) rfl Tryz.ntmps91 (fun cx e=>drawn_ok ty_ok tb6_ok cx e) (some 5) rfl rfl rfl rfl (nL rfl) (nL rfl) ?_
 refine gs ?_
 refine gr ?_
 intro stop5 S5
 refine S5.gx [] ?_
 refine gr ?_
 refine gr ?_
 refine S4.gx [1,3] ?_
 refine gr ?_
 refine S4.inl 1 [] [] Tryz.func181 (by decide) rfl Tryz.ntmps181 (fun cx e=>drawn_ok ty_ok tb6_ok cx e) (some 8) rfl rfl rfl rfl (nL rfl) (nL rfl) ?_
 refine gs ?_
 refine gr ?_
 intro stop5 S5
 refine S5.gx [6] ?_
 refine gr ?_
 refine S5.prune [4] ?_
 refine S5.gx [] ?_
 refine gr ?_
 refine gr ?_
 refine gr ?_
 refine S4.gx [1,3] ?_
 refine gr ?_
 refine gr ?_
 refine S3.gx [1,9,16,18,20,7] ?_
 refine gr ?_
 refine S3.lp ?_
 refine S3.gx [1,9,16,18,20,7] ?_
 refine gr ?_
 refine S3.prune [0,2,4,6,45,46,47] ?_
 refine S3.gx [1,9,16,18,20] ?_
 refine gr ?_
 refine gr ?_
 refine gr ?_
 refine S2.gx [2,6] ?_
 obtain ⟨hg12,hr⟩:=of_guard0 hr
 refine gr ?_
 refine S2.inl 1 [0,4] [] Tryz.func91 (by decide) rfl Tryz.ntmps91 (fun cx e=>drawn_ok ty_ok tb6_ok cx e) (some 19) rfl rfl rfl rfl (nL rfl) (nL rfl) ?_
 refine gs ?_
 refine gr ?_
 intro stop3 S3
 refine S3.gx [] ?_
 refine gr ?_
 refine gr ?_
 refine S2.gx [2,6] ?_
 refine gr ?_
 refine S2.lp ?_
 refine S2.gx [2,6] ?_
 refine gr ?_
 refine S2.inl 1 [0,4] [] Tryz.func90 (by decide) rfl Tryz.ntmps90 (fun cx e=>drawn_ok ty_ok tb6_ok cx e) (some 9) rfl rfl rfl rfl (nL rfl) (nL rfl) ?_
 refine gs ?_
 refine gr ?_
 intro stop3 S3
 refine S3.gx [1,9,16,18,20,7] ?_
 refine gr ?_
 refine S3.inl 1 [0,2] [] Tryz.func134 (by decide) rfl Tryz.ntmps134 (fun cx e=>drawn_ok ty_ok tb6_ok cx e) (some 15) rfl rfl rfl rfl (nL rfl) (nL rfl) ?_
 refine gs ?_
 refine gr ?_
 intro stop4 S4
 refine S4.gx [1] ?_
 refine gr ?_
 refine S4.inl 1 [] [] Tryz.func181 (by decide) rfl Tryz.ntmps181 (fun cx e=>drawn_ok ty_ok tb6_ok cx e) (some 8) rfl rfl rfl rfl (nL rfl) (nL rfl) ?_
 refine gs ?_
 refine gr ?_
 intro stop5 S5
 refine S5.gx [6] ?_
 refine gr ?_
 refine S5.prune [4] ?_
 refine S5.gx [] ?_
 refine gr ?_
 refine gr ?_
 refine gr ?_
 refine S4.gx [1] ?_
 refine gr ?_
 refine S4.lp ?_
 refine S4.gx [1] ?_
 refine gr ?_
 refine S4.lp ?_
 refine S4.gx [1] ?_
 refine gr ?_
 refine S4.lp ?_
 refine S4.gx [1] ?_
 refine gr ?_
 refine gr ?_
 refine S3.gx [1,9,16,18,20,7] ?_
 refine gr ?_
 refine S3.lp ?_
 refine S3.gx [1,9,16,18,20,7] ?_
 refine gr ?_
 refine S3.prune [0,2,4,6,45,46,47] ?_
 refine S3.gx [1,9,16,18,20] ?_
 refine gr ?_
 refine gr ?_
 refine S3.inl 1 [0,2,4,6,9,45,46,47] [] Tryz.func135 (by decide) rfl Tryz.ntmps135 (fun cx e=>drawn_ok ty_ok tb6_ok cx e) (some 53) rfl rfl rfl rfl (nL rfl) (nL rfl) ?_
 refine gs ?_
 refine gr ?_
 intro stop4 S4
 refine S4.gx [1,3] ?_
 refine gr ?_
 refine S4.inl 1 [0] [] Tryz.func91 (by decide) rfl Tryz.ntmps91 (fun cx e=>drawn_ok ty_ok tb6_ok cx e) (some 5) rfl rfl rfl rfl (nL rfl) (nL rfl) ?_
 refine gs ?_
 refine gr ?_
 intro stop5 S5
 refine S5.gx [] ?_
 refine gr ?_
 refine gr ?_
 refine S4.gx [1,3] ?_
 refine gr ?_
 refine S4.inl 1 [] [] Tryz.func181 (by decide) rfl Tryz.ntmps181 (fun cx e=>drawn_ok ty_ok tb6_ok cx e) (some 8) rfl rfl rfl rfl (nL rfl) (nL rfl) ?_
 refine gs ?_
 refine gr ?_
 intro stop5 S5
 refine S5.gx [6] ?_
 refine gr ?_
 refine S5.prune [4] ?_
 refine S5.gx [] ?_
 refine gr ?_
 refine gr ?_
 refine gr ?_
 refine S4.gx [1,3] ?_
 refine gr ?_
 refine gr ?_
 refine S3.gx [1,9,16,18,20,7] ?_
 refine gr ?_
 refine S3.lp ?_
 refine S3.gx [1,9,16,18,20,7] ?_
 refine gr ?_
 refine S3.prune [0,2,4,6,45,46,47] ?_
 refine S3.gx [1,9,16,18,20] ?_
 refine gr ?_
 refine gr ?_
 refine S3.inl 1 [0,2,4,6,9,45,46,47] [] Tryz.func135 (by decide) rfl Tryz.ntmps135 (fun cx e=>drawn_ok ty_ok tb6_ok cx e) (some 53) rfl rfl rfl rfl (nL rfl) (nL rfl) ?_
 refine gs ?_
 refine gr ?_
 intro stop4 S4
 refine S4.gx [1,3] ?_
 refine gr ?_
 refine S4.inl 1 [0] [] Tryz.func91 (by decide) rfl Tryz.ntmps91 (fun cx e=>drawn_ok ty_ok tb6_ok cx e) (some 5) rfl rfl rfl rfl (nL rfl) (nL rfl) ?_
 refine gs ?_
 refine gr ?_
 intro stop5 S5
 refine S5.gx [] ?_
 refine gr ?_
 refine gr ?_
 refine S4.gx [1,3] ?_
 refine gr ?_
 refine S4.inl 1 [] [] Tryz.func181 (by decide) rfl Tryz.ntmps181 (fun cx e=>drawn_ok ty_ok tb6_ok cx e) (some 8) rfl rfl rfl rfl (nL rfl) (nL rfl) ?_
 refine gs ?_
 refine gr ?_
 intro stop5 S5
 refine S5.gx [6] ?_
 refine gr ?_
 refine S5.prune [4] ?_
 refine S5.gx [] ?_
 refine gr ?_
 refine gr ?_
 refine gr ?_
 refine S4.gx [1,3] ?_
 refine gr ?_
 refine gr ?_
 refine S3.gx [1,9,16,18,20,7] ?_
 refine gr ?_
 refine S3.lp ?_
 refine S3.gx [1,9,16,18,20,7] ?_
 refine gr ?_
 refine S3.prune [0,2,4,6,45,46,47] ?_
 refine S3.gx [1,9,16,18,20] ?_
 refine gr ?_
 refine gr ?_
 refine gr ?_
 refine S2.gx [2,6] ?_
 obtain ⟨hg11,hr⟩:=of_guard0 hr
 refine gr ?_
 refine S2.inl 1 [0,4] [] Tryz.func91 (by decide) rfl Tryz.ntmps91 (fun cx e=>drawn_ok ty_ok tb6_ok cx e) (some 19) rfl rfl rfl rfl (nL rfl) (nL rfl) ?_
 refine gs ?_
 refine gr ?_
 intro stop3 S3
 refine S3.gx [] ?_
 refine gr ?_
 refine gr ?_
 refine S2.gx [2,6] ?_
 refine gr ?_
 refine gr ?_
 refine S1.gx [4] ?_
 repeat (first | refine gA ?_ | refine gB ?_)
 refine gr ?_
 refine S.gx [4,5] ?_
 refine gr ?_
 refine S.sees [1,2,3,4,5,6,7,8] [] [(12,12),(19,19),(100017,100017)] (st':=⟨[(1,.c (.own 12)),(2,.c (.d (.int .i64 v3.2))),(3,.c (.own 19)),(4,.c (.d (.int .i64 v6.2))),(5,.c (.d (.int .i64 v7.1))),(6,.c (.d (.int .i64 v7.2))),(7,.c (.own 100017)),(8,.c (.d (.int .i64 0)))],[],[(12,.owned (encF 2 d_II v3.1)),(19,.owned (encF 2 d_II v6.1)),(100017,.owned (encF 6 d_IIIIIH ([(3,400,0,5,650,Hl.nil)]++[(2,0,1,3,0,Hl.nil)])))]⟩) ?_ ?_
 ·exact lf
 ·refine S.gx [4] ?_
  obtain ⟨hg8,hr⟩:=of_guard0 hr
  obtain ⟨hg9,hr⟩:=of_guard0 hr
  obtain ⟨hg10,hr⟩:=of_guard0 hr
  repeat (first | refine gG hg8 ?_ | refine gG hg9 ?_ | refine gG hg10 ?_ | refine gA ?_ | refine gB ?_)
  exact D0 hr
end
end Go.Proofs.YtkbdjphdhcgmaaaGreatDoor

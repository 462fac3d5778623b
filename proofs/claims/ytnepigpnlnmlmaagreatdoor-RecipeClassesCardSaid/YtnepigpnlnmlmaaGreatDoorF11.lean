/- Contracts of functions, written by wip/dec. -/
import Derived.Test.YtnepigpnlnmlmaaGreatDoorF00
import Derived.Test.YtnepigpnlnmlmaaGreatDoorF01
import Derived.Test.YtnepigpnlnmlmaaGreatDoorF03
import Derived.Test.YtnepigpnlnmlmaaGreatDoorF05
import Derived.Test.YtnepigpnlnmlmaaGreatDoorF09
import Derived.Test.YtnepigpnlnmlmaaGreatDoorF10
set_option linter.unusedVariables false
set_option linter.unusedSimpArgs false
set_option linter.constructorNameAsVariable false
set_option maxHeartbeats 4000000
set_option maxRecDepth 20000
namespace Go.Proofs.YtnepigpnlnmlmaaGreatDoor
open Go.Abs
def r9:Option (Bool):=
 (r58).bind fun v1=>
  (r59).bind fun v2=>
   (r57 v1.1 v1.2.1 v1.2.2.1 v1.2.2.2.1 v1.2.2.2.2.1 v1.2.2.2.2.2.1 v1.2.2.2.2.2.2.1 v1.2.2.2.2.2.2.2.1 v1.2.2.2.2.2.2.2.2 v2).bind fun v3=>
    (r60).bind fun v4=>
     (r25 v3.1).bind fun v5=>
      (r24 v4.1 v4.2.1 v4.2.2.1 v4.2.2.2.1 v4.2.2.2.2.1 v4.2.2.2.2.2.1 v4.2.2.2.2.2.2.1 v4.2.2.2.2.2.2.2.1 v4.2.2.2.2.2.2.2.2.1 v4.2.2.2.2.2.2.2.2.2.1 v4.2.2.2.2.2.2.2.2.2.2.1 v4.2.2.2.2.2.2.2.2.2.2.2.1 v4.2.2.2.2.2.2.2.2.2.2.2.2.1 v4.2.2.2.2.2.2.2.2.2.2.2.2.2.1 v4.2.2.2.2.2.2.2.2.2.2.2.2.2.2.1 v4.2.2.2.2.2.2.2.2.2.2.2.2.2.2.2.1 v4.2.2.2.2.2.2.2.2.2.2.2.2.2.2.2.2.1 v4.2.2.2.2.2.2.2.2.2.2.2.2.2.2.2.2.2.1 v4.2.2.2.2.2.2.2.2.2.2.2.2.2.2.2.2.2.2 v5).bind fun v6=>
       (r52 v4.1 v4.2.1 v4.2.2.1 v4.2.2.2.1 v4.2.2.2.2.1 v4.2.2.2.2.2.1 v4.2.2.2.2.2.2.1 v4.2.2.2.2.2.2.2.1 v4.2.2.2.2.2.2.2.2.1 v4.2.2.2.2.2.2.2.2.2.1 v4.2.2.2.2.2.2.2.2.2.2.1 v4.2.2.2.2.2.2.2.2.2.2.2.1 v4.2.2.2.2.2.2.2.2.2.2.2.2.1 v4.2.2.2.2.2.2.2.2.2.2.2.2.2.1 v4.2.2.2.2.2.2.2.2.2.2.2.2.2.2.1 v4.2.2.2.2.2.2.2.2.2.2.2.2.2.2.2.1 v4.2.2.2.2.2.2.2.2.2.2.2.2.2.2.2.2.1 v4.2.2.2.2.2.2.2.2.2.2.2.2.2.2.2.2.2.1 v4.2.2.2.2.2.2.2.2.2.2.2.2.2.2.2.2.2.2 400).bind fun v7=>
        if 1*64≤140737488355328∧1≤9223372036854775807 then
         if (1+1)*64≤140737488355328∧1+1≤9223372036854775807 then
          if (v3.2 == 0)=true→(r62 v3.1).isSome=true then
           if (((v3.2 == 0) && (decide (((r62 v3.1).getD default)=(⟨#[52,48,48,32,48,59,52,48,48,32,48,59,48,32,49,59,48,32,49,59,48,32,49]⟩:ByteArray)))) && (v6.2 == 0))=true→(r30 v6.1 [(800,800),(200,200),(200,200)]).isSome=true then
            if (((((((v3.2 == 0) && (decide (((r62 v3.1).getD default)=(⟨#[52,48,48,32,48,59,52,48,48,32,48,59,48,32,49,59,48,32,49,59,48,32,49]⟩:ByteArray)))) && (v6.2 == 0)) && ((r30 v6.1 [(800,800),(200,200),(200,200)]).getD default)) && (v7.2 == 0)) && (v7.1 == 2)) && ((([(3,400,0,5,650,Hl.nil)]++[(2,0,1,3,0,Hl.nil)]).length:Int) == 2))=true→0≤0∧0<(([(3,400,0,5,650,Hl.nil)]++[(2,0,1,3,0,Hl.nil)]).length:Int) then
             some ((((((((v3.2 == 0) && (decide (((r62 v3.1).getD default)=(⟨#[52,48,48,32,48,59,52,48,48,32,48,59,48,32,49,59,48,32,49,59,48,32,49]⟩:ByteArray)))) && (v6.2 == 0)) && ((r30 v6.1 [(800,800),(200,200),(200,200)]).getD default)) && (v7.2 == 0)) && (v7.1 == 2)) && ((([(3,400,0,5,650,Hl.nil)]++[(2,0,1,3,0,Hl.nil)]).length:Int) == 2)) && (((([(3,400,0,5,650,Hl.nil)]++[(2,0,1,3,0,Hl.nil)]).getD 0 default).1) == 3))
             else none
            else none
           else none
          else none
         else none
@[go_sem] def T9:=qT0 qu2 false r9
@[go_sem] def tb9 (k:Nat):=lk [(24,T24.sp),(25,T25.sp),(30,T30.sp),(52,T52.sp),(57,T57.sp),(58,T58.sp),(59,T59.sp),(60,T60.sp),(62,T62.sp),(123,T123.sp),(241,T241.sp),(288,T288.sp),(308,T308.sp)] k
theorem tb9_ok:FnsOk Tryz.prog tb9:= .cons f24 (.cons f25 (.cons f30 (.cons f52 (.cons f57 (.cons f58 (.cons f59 (.cons f60 (.cons f62 (.cons f123 (.cons f241 (.cons f288 (.cons f308 .nil))))))))))))
theorem can_snoc1 {α:Type} [Inhabited α] {s s':Nat} {f:α→List D} {a0 b:α} {c:List D} (h:eqvDs c (f b)):Go.Abs.Can s f [a0,b] (D.cat (encF s f [a0]) (D.ofList s' [c]))=True:=can_cat (l:=[a0]) (r:=[b]) (of_eq_true (can_enc _)) (of_eq_true (canW_ofList (by simp only [List.map_cons,List.map_nil,eqvLL]; exact ⟨h,trivial⟩)))
theorem can_snoc2 {α:Type} [Inhabited α] {s s':Nat} {f:α→List D} {a0 a1 b:α} {c:List D} (h:eqvDs c (f b)):Go.Abs.Can s f [a0,a1,b] (D.cat (encF s f [a0,a1]) (D.ofList s' [c]))=True:=can_cat (l:=[a0,a1]) (r:=[b]) (of_eq_true (can_enc _)) (of_eq_true (canW_ofList (by simp only [List.map_cons,List.map_nil,eqvLL]; exact ⟨h,trivial⟩)))
theorem can_snoc3 {α:Type} [Inhabited α] {s s':Nat} {f:α→List D} {a0 a1 a2 b:α} {c:List D} (h:eqvDs c (f b)):Go.Abs.Can s f [a0,a1,a2,b] (D.cat (encF s f [a0,a1,a2]) (D.ofList s' [c]))=True:=can_cat (l:=[a0,a1,a2]) (r:=[b]) (of_eq_true (can_enc _)) (of_eq_true (canW_ofList (by simp only [List.map_cons,List.map_nil,eqvLL]; exact ⟨h,trivial⟩)))
theorem can_snoc4 {α:Type} [Inhabited α] {s s':Nat} {f:α→List D} {a0 a1 a2 a3 b:α} {c:List D} (h:eqvDs c (f b)):Go.Abs.Can s f [a0,a1,a2,a3,b] (D.cat (encF s f [a0,a1,a2,a3]) (D.ofList s' [c]))=True:=can_cat (l:=[a0,a1,a2,a3]) (r:=[b]) (of_eq_true (can_enc _)) (of_eq_true (canW_ofList (by simp only [List.map_cons,List.map_nil,eqvLL]; exact ⟨h,trivial⟩)))
theorem can_snoc5 {α:Type} [Inhabited α] {s s':Nat} {f:α→List D} {a0 a1 a2 a3 a4 b:α} {c:List D} (h:eqvDs c (f b)):Go.Abs.Can s f [a0,a1,a2,a3,a4,b] (D.cat (encF s f [a0,a1,a2,a3,a4]) (D.ofList s' [c]))=True:=can_cat (l:=[a0,a1,a2,a3,a4]) (r:=[b]) (of_eq_true (can_enc _)) (of_eq_true (canW_ofList (by simp only [List.map_cons,List.map_nil,eqvLL]; exact ⟨h,trivial⟩)))
theorem can_sng1 {α:Type} [Inhabited α] {s s':Nat} {f:α→List D} {a0 b:α} {c:List D} {x:D} (hx:Go.Abs.Can s f [a0] x) (h:eqvDs c (f b)):Go.Abs.Can s f [a0,b] (D.cat x (D.ofList s' [c]))=True:=can_cat (l:=[a0]) (r:=[b]) hx (of_eq_true (canW_ofList (by simp only [List.map_cons,List.map_nil,eqvLL]; exact ⟨h,trivial⟩)))
theorem can_sng2 {α:Type} [Inhabited α] {s s':Nat} {f:α→List D} {a0 a1 b:α} {c:List D} {x:D} (hx:Go.Abs.Can s f [a0,a1] x) (h:eqvDs c (f b)):Go.Abs.Can s f [a0,a1,b] (D.cat x (D.ofList s' [c]))=True:=can_cat (l:=[a0,a1]) (r:=[b]) hx (of_eq_true (canW_ofList (by simp only [List.map_cons,List.map_nil,eqvLL]; exact ⟨h,trivial⟩)))
theorem can_sng3 {α:Type} [Inhabited α] {s s':Nat} {f:α→List D} {a0 a1 a2 b:α} {c:List D} {x:D} (hx:Go.Abs.Can s f [a0,a1,a2] x) (h:eqvDs c (f b)):Go.Abs.Can s f [a0,a1,a2,b] (D.cat x (D.ofList s' [c]))=True:=can_cat (l:=[a0,a1,a2]) (r:=[b]) hx (of_eq_true (canW_ofList (by simp only [List.map_cons,List.map_nil,eqvLL]; exact ⟨h,trivial⟩)))
theorem can_sng4 {α:Type} [Inhabited α] {s s':Nat} {f:α→List D} {a0 a1 a2 a3 b:α} {c:List D} {x:D} (hx:Go.Abs.Can s f [a0,a1,a2,a3] x) (h:eqvDs c (f b)):Go.Abs.Can s f [a0,a1,a2,a3,b] (D.cat x (D.ofList s' [c]))=True:=can_cat (l:=[a0,a1,a2,a3]) (r:=[b]) hx (of_eq_true (canW_ofList (by simp only [List.map_cons,List.map_nil,eqvLL]; exact ⟨h,trivial⟩)))
theorem can_sng5 {α:Type} [Inhabited α] {s s':Nat} {f:α→List D} {a0 a1 a2 a3 a4 b:α} {c:List D} {x:D} (hx:Go.Abs.Can s f [a0,a1,a2,a3,a4] x) (h:eqvDs c (f b)):Go.Abs.Can s f [a0,a1,a2,a3,a4,b] (D.cat x (D.ofList s' [c]))=True:=can_cat (l:=[a0,a1,a2,a3,a4]) (r:=[b]) hx (of_eq_true (canW_ofList (by simp only [List.map_cons,List.map_nil,eqvLL]; exact ⟨h,trivial⟩)))
attribute [go_sem] can_snoc1 can_sng1 can_snoc2 can_sng2 can_snoc3 can_sng3 can_snoc4 can_sng4 can_snoc5 can_sng5
theorem dcT (h:Decidable True): @decide True h=true:=decide_eq_true trivial
theorem wc9_0:r308 (⟨#[117,110,116,105,108,32,54,53,48,32,52,48,48,32,53,59,113,117,101,110,99,104,32,49,32,51]⟩:ByteArray) (⟨#[32,59,40,41]⟩:ByteArray)=some 5:=by decide +kernel
theorem wc9_1:r241 (⟨#[32,54,53,48,32,52,48,48,32,53,59,113,117,101,110,99,104,32,49,32,51]⟩:ByteArray) (⟨#[32]⟩:ByteArray)=some ((⟨#[54,53,48,32,52,48,48,32,53,59,113,117,101,110,99,104,32,49,32,51]⟩:ByteArray),true):=by decide +kernel
theorem wc9_2:r308 (⟨#[54,53,48,32,52,48,48,32,53,59,113,117,101,110,99,104,32,49,32,51]⟩:ByteArray) (⟨#[32,59,40,41]⟩:ByteArray)=some 3:=by decide +kernel
theorem wc9_3:r288 (⟨#[54,53,48]⟩:ByteArray)=some (650,true):=by decide +kernel
theorem wc9_4:r241 (⟨#[32,52,48,48,32,53,59,113,117,101,110,99,104,32,49,32,51]⟩:ByteArray) (⟨#[32]⟩:ByteArray)=some ((⟨#[52,48,48,32,53,59,113,117,101,110,99,104,32,49,32,51]⟩:ByteArray),true):=by decide +kernel
theorem wc9_5:r308 (⟨#[52,48,48,32,53,59,113,117,101,110,99,104,32,49,32,51]⟩:ByteArray) (⟨#[32,59,40,41]⟩:ByteArray)=some 3:=by decide +kernel
theorem wc9_6:r288 (⟨#[52,48,48]⟩:ByteArray)=some (400,true):=by decide +kernel
theorem wc9_7:r241 (⟨#[32,53,59,113,117,101,110,99,104,32,49,32,51]⟩:ByteArray) (⟨#[32]⟩:ByteArray)=some ((⟨#[53,59,113,117,101,110,99,104,32,49,32,51]⟩:ByteArray),true):=by decide +kernel
theorem wc9_8:r308 (⟨#[53,59,113,117,101,110,99,104,32,49,32,51]⟩:ByteArray) (⟨#[32,59,40,41]⟩:ByteArray)=some 1:=by decide +kernel
theorem wc9_9:r288 (⟨#[53]⟩:ByteArray)=some (5,true):=by decide +kernel
theorem wc9_10:r241 (⟨#[59,113,117,101,110,99,104,32,49,32,51]⟩:ByteArray) (⟨#[59]⟩:ByteArray)=some ((⟨#[113,117,101,110,99,104,32,49,32,51]⟩:ByteArray),true):=by decide +kernel
theorem wc9_11:r308 (⟨#[113,117,101,110,99,104,32,49,32,51]⟩:ByteArray) (⟨#[32,59,40,41]⟩:ByteArray)=some 6:=by decide +kernel
theorem wc9_12:r241 (⟨#[32,49,32,51]⟩:ByteArray) (⟨#[32]⟩:ByteArray)=some ((⟨#[49,32,51]⟩:ByteArray),true):=by decide +kernel
theorem wc9_13:r308 (⟨#[49,32,51]⟩:ByteArray) (⟨#[32,59,40,41]⟩:ByteArray)=some 1:=by decide +kernel
theorem wc9_14:r288 (⟨#[49]⟩:ByteArray)=some (1,true):=by decide +kernel
theorem wc9_15:r241 (⟨#[32,51]⟩:ByteArray) (⟨#[32]⟩:ByteArray)=some ((⟨#[51]⟩:ByteArray),true):=by decide +kernel
theorem wc9_16:r308 (⟨#[51]⟩:ByteArray) (⟨#[32,59,40,41]⟩:ByteArray)=some (-1):=by decide +kernel
theorem wc9_17:r288 (⟨#[51]⟩:ByteArray)=some (3,true):=by decide +kernel
theorem wc9_18:r241 (⟨#[]⟩:ByteArray) (⟨#[59]⟩:ByteArray)=some ((⟨#[]⟩:ByteArray),false):=by decide +kernel
theorem wc9_19:r123 ([(3,400,0,5,650,Hl.nil),(2,0,1,3,0,Hl.nil)])=some (0,0):=by decide +kernel
section
attribute [local go_sem] wc9_0 wc9_1 wc9_2 wc9_3 wc9_4 wc9_5 wc9_6 wc9_7 wc9_8 wc9_9 wc9_10 wc9_11 wc9_12 wc9_13 wc9_14 wc9_15 wc9_16 wc9_17 wc9_18 wc9_19 oG oI not_true_eq_false dcT
theorem f9:FnFact Tryz.prog 9 T9.sp:=by
 refine vm (tb:=tb9) (.cons f24 (.cons f25 (.cons f30 (.cons f52 (.cons f57 (.cons f58 (.cons f59 (.cons f60 (.cons f62 (.cons f123 (.cons f241 (.cons f288 (.cons f308 .nil))))))))))))) Tryz.func9 Tryz.ntmps9 fun _ r hr stop S=> ?_
 rw [uq0,r9] at hr
 refine S.gx [4,5] ?_
 obtain ⟨v1,hv1,hr⟩:=of_bind0 hr
 try simp only [List.cons_append,List.nil_append] at hv1
 obtain ⟨v2,hv2,hr⟩:=of_bind0 hr
 try simp only [List.cons_append,List.nil_append] at hv2
 obtain ⟨v3,hv3,hr⟩:=of_bind0 hr
 try simp only [List.cons_append,List.nil_append] at hv3
 obtain ⟨v4,hv4,hr⟩:=of_bind0 hr
 try simp only [List.cons_append,List.nil_append] at hv4
 obtain ⟨v5,hv5,hr⟩:=of_bind0 hr
 try simp only [List.cons_append,List.nil_append] at hv5
 obtain ⟨v6,hv6,hr⟩:=of_bind0 hr
 try simp only [List.cons_append,List.nil_append] at hv6
 obtain ⟨v7,hv7,hr⟩:=of_bind0 hr
 try simp only [List.cons_append,List.nil_append] at hv7
 refine gb hv1 ?_
 refine gb hv2 ?_
 refine gb hv3 ?_
 refine gb hv4 ?_
 refine gb hv5 ?_
 refine gb hv6 ?_
 refine gb hv7 ?_
 refine S.inl 0 [1,2,3,4,5,6] [] Tryz.func61 (by decide) rfl Tryz.ntmps61 (fun cx e=>drawn_ok ty_ok tb9_ok cx e) (some 28) rfl rfl rfl rfl (nL rfl) (nL rfl) ?_
 refine gs ?_
 refine gr ?_
 intro stop1 S1
 refine S1.gw [4] ?_
 refine S1.inl 0 [4] [] Tryz.func122 (by decide) rfl Tryz.ntmps122 (fun cx e=>drawn_ok ty_ok tb9_ok cx e) (some 15) rfl rfl rfl rfl (nL rfl) (nL rfl) ?_
 refine gs ?_
 refine gr ?_
 intro stop2 S2
 refine S2.gw [2,6] ?_
 refine S2.lp ?_
 refine S2.gw [2,6] ?_
 refine S2.inl 1 [0,4] [] Tryz.func181 (by decide) rfl Tryz.ntmps181 (fun cx e=>drawn_ok ty_ok tb9_ok cx e) (some 9) rfl rfl rfl rfl (nL rfl) (nL rfl) ?_
 refine gs ?_
 refine gr ?_
 intro stop3 S3
 refine S3.gw [1,9,16,18,20,7] ?_
 refine S3.inl 1 [0,2] [] Tryz.func239 (by decide) rfl Tryz.ntmps239 (fun cx e=>drawn_ok ty_ok tb9_ok cx e) (some 15) rfl rfl rfl rfl (nL rfl) (nL rfl) ?_
 refine gs ?_
 refine gr ?_
 intro stop4 S4
 refine S4.gw [1] ?_
 refine S4.inl 1 [] [] Tryz.func287 (by decide) rfl Tryz.ntmps287 (fun cx e=>drawn_ok ty_ok tb9_ok cx e) (some 8) rfl rfl rfl rfl (nL rfl) (nL rfl) ?_
 refine gs ?_
 refine gr ?_
 intro stop5 S5
 refine S5.gw [6] ?_
 refine S5.prune [4] ?_
 refine S5.gw [] ?_
 refine S4.gw [1] ?_
 refine S4.lp ?_
 refine S4.gw [1] ?_
 refine S4.lp ?_
 refine S4.gw [1] ?_
 refine S4.lp ?_
 refine S4.gw [1] ?_
 refine S4.lp ?_
 refine S4.gw [1] ?_
 refine S3.gw [1,9,16,18,20,7] ?_
 refine S3.lp ?_
 refine S3.gw [1,9,16,18,20,7] ?_
 refine S3.prune [0,2,4,6,45,46,47] ?_
 refine S3.gw [1,9,16,18,20] ?_
 refine S3.inl 1 [0,2,4,6,9,45,46,47] [] Tryz.func240 (by decide) rfl Tryz.ntmps240 (fun cx e=>drawn_ok ty_ok tb9_ok cx e) (some 53) rfl rfl rfl rfl (nL rfl) (nL rfl) ?_
 refine gs ?_
 refine gr ?_
 intro stop4 S4
 refine S4.gw [1,3] ?_
 refine S4.inl 1 [0] [] Tryz.func182 (by decide) rfl Tryz.ntmps182 (fun cx e=>drawn_ok ty_ok tb9_ok cx e) (some 5) rfl rfl rfl rfl (nL rfl) (nL rfl) ?_
 refine gs ?_
 refine gr ?_
 intro stop5 S5
 refine S5.gw [] ?_
 refine S4.gw [1,3] ?_
 refine S4.inl 1 [] [] Tryz.func287 (by decide) rfl Tryz.ntmps287 (fun cx e=>drawn_ok ty_ok tb9_ok cx e) (some 8) rfl rfl rfl rfl (nL rfl) (nL rfl) ?_
 refine gs ?_
 refine gr ?_
 intro stop5 S5
 refine S5.gw [6] ?_
 refine S5.prune [4] ?_
 refine S5.gw [] ?_
 refine S4.gw [1,3] ?_
 refine S3.gw [1,9,16,18,20,7] ?_
 refine S3.lp ?_
 refine S3.gw [1,9,16,18,20,7] ?_
 refine S3.prune [0,2,4,6,45,46,47] ?_
 refine S3.gw [1,9,16,18,20] ?_
 refine S3.inl 1 [0,2,4,6,9,45,46,47] [] Tryz.func240 (by decide) rfl Tryz.ntmps240 (fun cx e=>drawn_ok ty_ok tb9_ok cx e) (some 53) rfl rfl rfl rfl (nL rfl) (nL rfl) ?_
 refine gs ?_
 refine gr ?_
 intro stop4 S4
 refine S4.gw [1,3] ?_
 refine S4.inl 1 [0] [] Tryz.func182 (by decide) rfl Tryz.ntmps182 (fun cx e=>drawn_ok ty_ok tb9_ok cx e) (some 5) rfl rfl rfl rfl (nL rfl) (nL rfl) ?_
 refine gs ?_
 refine gr ?_
 intro stop5 S5
 refine S5.gw [] ?_
 refine S4.gw [1,3] ?_
 refine S4.inl 1 [] [] Tryz.func287 (by decide) rfl Tryz.ntmps287 (fun cx e=>drawn_ok ty_ok tb9_ok cx e) (some 8) rfl rfl rfl rfl (nL rfl) (nL rfl) ?_
 refine gs ?_
 refine gr ?_
 intro stop5 S5
 refine S5.gw [6] ?_
 refine S5.prune [4] ?_
 refine S5.gw [] ?_
 refine S4.gw [1,3] ?_
 refine S3.gw [1,9,16,18,20,7] ?_
 refine S3.lp ?_
 refine S3.gw [1,9,16,18,20,7] ?_
 refine S3.prune [0,2,4,6,45,46,47] ?_
 refine S3.gw [1,9,16,18,20] ?_
 refine S3.inl 1 [0,2,4,6,9,45,46,47] [] Tryz.func240 (by decide) rfl Tryz.ntmps240 (fun cx e=>drawn_ok ty_ok tb9_ok cx e) (some 53) rfl rfl rfl rfl (nL rfl) (nL rfl) ?_
 refine gs ?_
 refine gr ?_
 intro stop4 S4
 refine S4.gw [1,3] ?_
 refine S4.inl 1 [0] [] Tryz.func182 (by decide) rfl Tryz.ntmps182 (fun cx e=>drawn_ok ty_ok tb9_ok cx e) (some 5) rfl rfl rfl rfl (nL rfl) (nL rfl) ?_
 refine gs ?_
 refine gr ?_
 intro stop5 S5
 refine S5.gw [] ?_
 refine S4.gw [1,3] ?_
 refine S4.inl 1 [] [] Tryz.func287 (by decide) rfl Tryz.ntmps287 (fun cx e=>drawn_ok ty_ok tb9_ok cx e) (some 8) rfl rfl rfl rfl (nL rfl) (nL rfl) ?_
 refine gs ?_
 refine gr ?_
 intro stop5 S5
 refine S5.gw [6] ?_
 refine S5.prune [4] ?_
 refine S5.gw [] ?_
 refine S4.gw [1,3] ?_
 refine S3.gw [1,9,16,18,20,7] ?_
 refine S3.lp ?_
 refine S3.gw [1,9,16,18,20,7] ?_
 refine S3.prune [0,2,4,6,45,46,47] ?_
 refine S3.gw [1,9,16,18,20] ?_
 refine S2.gx [2,6] ?_
 obtain ⟨hg12,hr⟩:=of_guard0 hr
 refine gr ?_
 refine S2.inl 1 [0,4] [] Tryz.func182 (by decide) rfl Tryz.ntmps182 (fun cx e=>drawn_ok ty_ok tb9_ok cx e) (some 19) rfl rfl rfl rfl (nL rfl) (nL rfl) ?_
 refine gs ?_
 refine gr ?_
 intro stop3 S3
 refine S3.gw [] ?_
 refine S2.gw [2,6] ?_
 refine S2.lp ?_
 refine S2.gw [2,6] ?_
 refine S2.inl 1 [0,4] [] Tryz.func181 (by decide) rfl Tryz.ntmps181 (fun cx e=>drawn_ok ty_ok tb9_ok cx e) (some 9) rfl rfl rfl rfl (nL rfl) (nL rfl) ?_
 refine gs ?_
 refine gr ?_
 intro stop3 S3
 refine S3.gw [1,9,16,18,20,7] ?_
 refine S3.inl 1 [0,2] [] Tryz.func239 (by decide) rfl Tryz.ntmps239 (fun cx e=>drawn_ok ty_ok tb9_ok cx e) (some 15) rfl rfl rfl rfl (nL rfl) (nL rfl) ?_
 refine gs ?_
 refine gr ?_
 intro stop4 S4
 refine S4.gw [1] ?_
 refine S4.inl 1 [] [] Tryz.func287 (by decide) rfl Tryz.ntmps287 (fun cx e=>drawn_ok ty_ok tb9_ok cx e) (some 8) rfl rfl rfl rfl (nL rfl) (nL rfl) ?_
 refine gs ?_
 refine gr ?_
 intro stop5 S5
 refine S5.gw [6] ?_
 refine S5.prune [4] ?_
 refine S5.gw [] ?_
 refine S4.gw [1] ?_
 refine S4.lp ?_
 refine S4.gw [1] ?_
 refine S4.lp ?_
 refine S4.gw [1] ?_
 refine S4.lp ?_
 refine S4.gw [1] ?_
 refine S3.gw [1,9,16,18,20,7] ?_
 refine S3.lp ?_
 refine S3.gw [1,9,16,18,20,7] ?_
 refine S3.prune [0,2,4,6,45,46,47] ?_
 refine S3.gw [1,9,16,18,20] ?_
 refine S3.inl 1 [0,2,4,6,9,45,46,47] [] Tryz.func240 (by decide) rfl Tryz.ntmps240 (fun cx e=>drawn_ok ty_ok tb9_ok cx e) (some 53) rfl rfl rfl rfl (nL rfl) (nL rfl) ?_
 refine gs ?_
 refine gr ?_
 intro stop4 S4
 refine S4.gw [1,3] ?_
 refine S4.inl 1 [0] [] Tryz.func182 (by decide) rfl Tryz.ntmps182 (fun cx e=>drawn_ok ty_ok tb9_ok cx e) (some 5) rfl rfl rfl rfl (nL rfl) (nL rfl) ?_
 refine gs ?_
 refine gr ?_
 intro stop5 S5
 refine S5.gw [] ?_
 refine S4.gw [1,3] ?_
 refine S4.inl 1 [] [] Tryz.func287 (by decide) rfl Tryz.ntmps287 (fun cx e=>drawn_ok ty_ok tb9_ok cx e) (some 8) rfl rfl rfl rfl (nL rfl) (nL rfl) ?_
 refine gs ?_
 refine gr ?_
 intro stop5 S5
 refine S5.gw [6] ?_
 refine S5.prune [4] ?_
 refine S5.gw [] ?_
 refine S4.gw [1,3] ?_
 refine S3.gw [1,9,16,18,20,7] ?_
 refine S3.lp ?_
 refine S3.gw [1,9,16,18,20,7] ?_
 refine S3.prune [0,2,4,6,45,46,47] ?_
 refine S3.gw [1,9,16,18,20] ?_
 refine S3.inl 1 [0,2,4,6,9,45,46,47] [] Tryz.func240 (by decide) rfl Tryz.ntmps240 (fun cx e=>drawn_ok ty_ok tb9_ok cx e) (some 53) rfl rfl rfl rfl (nL rfl) (nL rfl) ?_
 refine gs ?_
 refine gr ?_
 intro stop4 S4
 refine S4.gw [1,3] ?_
 refine S4.inl 1 [0] [] Tryz.func182 (by decide) rfl Tryz.ntmps182 (fun cx e=>drawn_ok ty_ok tb9_ok cx e) (some 5) rfl rfl rfl rfl (nL rfl) (nL rfl) ?_
 refine gs ?_
 refine gr ?_
 intro stop5 S5
 refine S5.gw [] ?_
 refine S4.gw [1,3] ?_
 refine S4.inl 1 [] [] Tryz.func287 (by decide) rfl Tryz.ntmps287 (fun cx e=>drawn_ok ty_ok tb9_ok cx e) (some 8) rfl rfl rfl rfl (nL rfl) (nL rfl) ?_
 refine gs ?_
 refine gr ?_
 intro stop5 S5
 refine S5.gw [6] ?_
 refine S5.prune [4] ?_
 refine S5.gw [] ?_
 refine S4.gw [1,3] ?_
 refine S3.gw [1,9,16,18,20,7] ?_
 refine S3.lp ?_
 refine S3.gw [1,9,16,18,20,7] ?_
 refine S3.prune [0,2,4,6,45,46,47] ?_
 refine S3.gw [1,9,16,18,20] ?_
 refine S2.gx [2,6] ?_
 obtain ⟨hg11,hr⟩:=of_guard0 hr
 refine gr ?_
 refine S2.inl 1 [0,4] [] Tryz.func182 (by decide) rfl Tryz.ntmps182 (fun cx e=>drawn_ok ty_ok tb9_ok cx e) (some 19) rfl rfl rfl rfl (nL rfl) (nL rfl) ?_
 refine gs ?_
 refine gr ?_
 intro stop3 S3
 refine S3.gw [] ?_
 refine S2.gw [2,6] ?_
 refine S1.gx [4] ?_
 repeat (first | refine gA ?_ | refine gB ?_)
 refine S.gw [4,5] ?_
 refine S.sees [1,2,3,4,5,6,7,8] [] [(12,12),(19,19),(100017,100017)] (st':=⟨[sO 1 12,sI 2 v3.2,sO 3 19,sI 4 v6.2,sI 5 v7.1,sI 6 v7.2,sO 7 100017,sI 8 0],[],[(12,.owned (encF 2 d_II v3.1)),(19,.owned (encF 2 d_II v6.1)),(100017,.owned (encF 6 d_IIIIIH ([(3,400,0,5,650,Hl.nil)]++[(2,0,1,3,0,Hl.nil)])))]⟩) ?_ ?_
 ·exact lf
 ·refine S.gx [4] ?_
  obtain ⟨hg8,hr⟩:=of_guard0 hr
  obtain ⟨hg9,hr⟩:=of_guard0 hr
  obtain ⟨hg10,hr⟩:=of_guard0 hr
  repeat (first | refine gG hg8 ?_ | refine gG hg9 ?_ | refine gG hg10 ?_ | refine gA ?_ | refine gB ?_)
  exact D0 hr
end
end Go.Proofs.YtnepigpnlnmlmaaGreatDoor

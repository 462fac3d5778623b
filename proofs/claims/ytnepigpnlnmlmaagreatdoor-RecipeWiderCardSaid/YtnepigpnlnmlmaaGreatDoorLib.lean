/- Functions of Go's library as contracts of the abstract machine: by the shelf's contracts. -/
import Derived.Test.YtnepigpnlnmlmaaGreatDoorShelf
import Derived.Test.YtnepigpnlnmlmaaGreatDoorAbsTac
set_option linter.unusedVariables false
set_option linter.unusedSimpArgs false
namespace Go.Proofs.YtnepigpnlnmlmaaGreatDoor
open Go.dR Go.RowKit Go.Sort
def awf (n:Int):ByteArray:=⟨(Lib.itoa n).toArray⟩
def Qr (n:Int):Option ByteArray:=if -9223372036854775808<=n/\n<=9223372036854775807 then some (awf n) else none
def Ym (l:List UInt8):Int×Bool:=
 match Lib.atoiAll l with
 | .ok v=>(v,false)
 | .range=>(Lib.atoiSat l,true)
 | _=>(0,true)
def La (s:ByteArray):Option (Int×Bool):=if s.size<=281474976710656 then some (Ym s.data.toList) else none
def XM (l:List ByteArray) (sep:ByteArray):ByteArray:=⟨(Lib.join (l.map λx=>x.data.toList) sep.data.toList).toArray⟩
def XK (l:List ByteArray) (sep:ByteArray):Option ByteArray:=if l.length<=140737488355328/\(XM l sep).size<=140737488355328 then some (XM l sep) else none
def wR (s t:ByteArray):Option Int:=if (s.size<4294967281/\t.size<4294967281)/\(s.data.toList.all λc=>decide (c.toNat<128))=true/\(t.data.toList.all λc=>decide (c.toNat<128))=true then some (Lib.indexAny s.data.toList t.data.toList) else none
theorem Ef {α:Type} {f:Nat} {T:uJ α} (hal:T.al=false)
 (h:∀ x (S0:Nat->Prop) (w:World) (vs:Array Value),T.pre x->uw w->(∀ B,S0 B->B<w.heap.size)->jH w S0 (T.enc x) vs.toList->
  Calls Tryz.prog f vs w λe w'=>∃ v,e= .returned v/\Below w.heap.size w w'/\∃ own:Nat->Option Nat,(∀ j B,own j=some B->w.heap.size<=B/\B<w'.heap.size)/\(∀ i j B,own i=some B->own j=some B->i=j)/\
   RQ w' (λB=>w.heap.size<=B/\∀ j,own j≠some B) own (T.res x) v):Valid Tryz.prog f T.sp:=by
 intro S0 w args vs hg hS hr hp
 refine (h (T.dec args) S0 w vs hp.2 hg hS (jH.eqv hp.1 hr)).mono ?_
 rintro e w' ⟨v,rfl,hb,own,h1,h2,h3⟩
 refine ⟨v,rfl,⟨⟨hb.os,hb.tape,hb.output⟩,hb.size,hb.block,own,h1,h2,?_⟩⟩
 have e:(λB=>((T.sp.alias=true/\S0 B)\/w.heap.size<=B)/\∀ j,own j≠some B)=λB=>w.heap.size<=B/\∀ j,own j≠some B:=by
  funext B
  have:T.sp.alias=false:=hal
  simp [this]
 rw [e]; exact h3
theorem Xw {w:World} {S:Nat->Prop} {x:D} {vs:Array Value} (h:jH w S [.c x] vs.toList):∃ v,vs= #[v]/\RD w S x v:=by
 obtain ⟨l⟩:=vs
 match l,h with
 | [v],h=>exact ⟨v,rfl,h.1⟩
theorem OZ {w:World} {S:Nat->Prop} {x y:D} {vs:Array Value} (h:jH w S [.c x,.c y] vs.toList):∃ v u,vs= #[v,u]/\RD w S x v/\RD w S y u:=by
 obtain ⟨l⟩:=vs
 match l,h with
 | [v,u],h=>exact ⟨v,u,rfl,h.1,h.2.1⟩
theorem adW {w:World} (h:uw w):Lib.TabIs Tryz.prog w "internal/strconv.uint64pow10" .u64 Lib.pow10Tab:=by
 obtain ⟨c,T,z,h1,h2⟩:=h.2 2 _ (.head _)
 have hn:Tryz.prog.globalNamed "internal/strconv.uint64pow10" =some 2:=by kernel_rfl
 unfold Lib.TabIs World.var?
 rw [hn,Option.bind_some,h1]
 have:c=(Lib.pow10Tab.map λz=>Value.int .u64 z).toArray:=by rw [h2]; rfl
 rw [<- this]
theorem below_grow {w:World} {os:Array Obj}:Below w.heap.size w (grow w os):=⟨rfl,rfl,rfl,by simp [grow],λk hk=>by simp [grow,Array.getElem?_append_left hk]⟩
theorem below_drewN (w:World) (k:Nat):Below w.heap.size w (w.drewN k):=⟨rfl,rfl,rfl,Nat.le_refl _,λ_ _=>rfl⟩
theorem acX {T:uJ Int} (he:∀ x,T.enc x=[.c (.int .i64 x)]) (hp:∀ x,T.pre x=((Qr x).isSome=true)) (hr:∀ x,T.res x=[.c (.d (.str ((Qr x).getD default)))]) (hal:T.al=false):Valid Tryz.prog 124 T.sp:=by
 refine Ef hal λx S0 w vs hx hg _ ha=> ?_
 rw [he] at ha
 obtain ⟨v,rfl,hv⟩:=Xw ha
 obtain rfl:=jl hv
 rw [hp,Qr] at hx
 by_cases hb: -9223372036854775808<=x/\x<=9223372036854775807
 ·refine (Tryz.strconv_Itoa x hb.1 hb.2 w (adW hg)).mono ?_
  rintro e w' ⟨rfl,k,os,rfl⟩
  refine ⟨_,rfl,(below_drewN w k).trans (below_grow (w:=w.drewN k)),λ_=>none,λ_ _ h=>(by cases h),λ_ _ _ h=>(by cases h),?_⟩
  rw [hr,Qr,if_pos hb]
  exact ⟨RD.str _,trivial⟩
 rw [if_neg hb] at hx; cases hx
theorem acY {T:uJ ByteArray} (he:∀ x,T.enc x=[.c (.str x)]) (hp:∀ x,T.pre x=((La x).isSome=true)) (hr:∀ x,T.res x=[.c (.d (.int .i64 ((La x).getD default).1)),.c (.d (.err ((La x).getD default).2))]) (hal:T.al=false):Valid Tryz.prog 309 T.sp:=by
 refine Ef hal λx S0 w vs hx hg _ ha=> ?_
 rw [he] at ha
 obtain ⟨v,rfl,hv⟩:=Xw ha
 obtain rfl:=pI hv
 rw [hp,La] at hx
 by_cases hb:x.size<=281474976710656
 ·have hres:T.res x=[.c (.d (.int .i64 (Ym x.data.toList).1)),.c (.d (.err (Ym x.data.toList).2))]:=by rw [hr,La,if_pos hb]; rfl
  rw [hres]
  have cell:∀ {g:Nat} {c:Array Value} {Ty:TypeId} {z:Nat×Nat} {u:Value},w.heap[g]? =some (.cells c Ty z)->c[0]? =some u->w.cell? ⟨g,0,none⟩=some u:=λh1 h2=>by simp [World.cell?,h1,h2]
  unfold Ym
  cases ha:Lib.atoiAll x.data.toList with
  | ok v=>
   refine (Tryz.strconv_Atoi_ok x (by omega) v ha w).mono ?_
   rintro e w' ⟨rfl,hw⟩
   refine ⟨_,rfl,?_,λ_=>none,λ_ _ h=>(by cases h),λ_ _ _ h=>(by cases h),?_⟩
   ·rcases hw with rfl | ⟨t,rfl⟩
    ·exact Below.refl _ _
    exact Lib.bytesWorld_below w _ t
   ·exact ⟨_,rfl,⟨RD.int _ _,trivial⟩,⟨RD.Vk,trivial⟩,trivial⟩
  | range=>
   obtain ⟨c,Ty,z,h1,t,u,h2⟩:=hg.2 7 _ (.tail _ (.tail _ (.tail _ (.head _))))
   refine (Tryz.strconv_Atoi_range x hb ha (.iface t u) w (cell h1 h2) (.inr ⟨_,_,rfl⟩)).mono ?_
   rintro e w' ⟨N,rfl,-,-,hw⟩
   refine ⟨_,rfl,hw,λ_=>none,λ_ _ h=>(by cases h),λ_ _ _ h=>(by cases h),?_⟩
   exact ⟨_,rfl,⟨RD.int _ _,trivial⟩,⟨RD.DK _ _,trivial⟩,trivial⟩
  | _=>
   obtain ⟨c,Ty,z,h1,t,u,h2⟩:=hg.2 6 _ (.tail _ (.tail _ (.head _)))
   refine (Any.strconv_Atoi_syntax Tryz.laysC172 x hb ha (.iface t u) w (cell h1 h2) (.inr ⟨_,_,rfl⟩)).mono ?_
   rintro e w' ⟨N,rfl,-,-,hw⟩
   refine ⟨_,rfl,hw,λ_=>none,λ_ _ h=>(by cases h),λ_ _ _ h=>(by cases h),?_⟩
   exact ⟨_,rfl,⟨RD.int _ _,trivial⟩,⟨RD.DK _ _,trivial⟩,trivial⟩
 rw [if_neg hb] at hx; cases hx
theorem Tv {w:World} {S:Nat->Prop} {l:List ByteArray} {v:Value} (h:RD w S (aj 1 (λx=>[D.str x]) l) v):(l=[]/\∃ a c,v= .slice a 0 c)\/(l≠[]/\∃ B o c,v= .slice (some ⟨B,o,none⟩) l.length c/\l.length<=c/\B<w.heap.size/\∀ (j:Nat) x,l[j]? =some x->w.cell? ⟨B,o+j,none⟩=some (.string x)):=by
 generalize hd:aj 1 (λx=>[D.str x]) l=d at h
 cases h with
 | sl0 s g ao cap=>
  have:=congrArg D.len hd
  simp only [H7] at this
  have hl:l=[]:=List.eq_nil_of_length_eq_zero this
  exact .inl ⟨hl,ao,cap,rfl⟩
 | sl s n g B o cap f hn hcap hB hS hl hc hrr=>
  have h1:l.length=n:=congrArg D.len hd
  have h2:(1:Nat)=s:=congrArg D.stride hd
  subst h1 h2
  refine .inr ⟨by intro e; subst e; simp at hn,B,o,cap,rfl,hcap,hB,λj x hx=> ?_⟩
  have hj:=(List.getElem?_eq_some_iff.1 hx).1
  have h3:(λi=>[D.str (l.getD i default)])=g:=by
   have:=congrArg D.nth hd
   funext i
   exact congrFun this i
  have h4:=hc j 0 hj (by omega)
  have h5:=hrr j 0 hj (by omega)
  rw [<- h3] at h5
  have h6:=pI (show RD w S (.str (l.getD j default)) (f j 0) from h5)
  rw [Nat.mul_one,Nat.add_zero] at h4
  rw [h4,h6]
  simp [List.getD_eq_getElem?_getD,hx]
 | _=>cases hd
theorem acW {T:uJ (List ByteArray×ByteArray)} (he:∀ x,T.enc x=[.c (aj 1 (λx=>[D.str x]) x.1),.c (.str x.2)]) (hp:∀ x,T.pre x=((XK x.1 x.2).isSome=true)) (hr:∀ x,T.res x=[.c (.d (.str ((XK x.1 x.2).getD default)))]) (hal:T.al=false):Valid Tryz.prog 125 T.sp:=by
 refine Ef hal λx S0 w vs hx hg _ ha=> ?_
 rw [he] at ha
 obtain ⟨v,u,rfl,hv,hu⟩:=OZ ha
 obtain rfl:=pI hu
 obtain ⟨l,sep⟩:=x
 rw [hp] at hx
 rw [hr]
 simp only [XK] at hx ⊢
 by_cases hb:l.length<=140737488355328/\(XM l sep).size<=140737488355328
 ·rw [if_pos hb]
  rcases Tv hv with ⟨hl,a,c,rfl⟩ | ⟨hl,B,o,c,rfl,hcap,hB,hcell⟩
  ·simp only at hl
   subst hl
   refine (Tryz.strings_Join_none a c sep w).mono ?_
   rintro e w' ⟨rfl,rfl⟩
   exact ⟨_,rfl,Below.refl _ _,λ_=>none,λ_ _ h=>(by cases h),λ_ _ _ h=>(by cases h),RD.str _,trivial⟩
  refine (Tryz.strings_Join B o c l sep w hcell hB hb.1 hcap (by have:=hb.2; simpa [XM,ByteArray.size] using this)).mono ?_
  rintro e w' ⟨rfl,hw⟩
  exact ⟨_,rfl,hw,λ_=>none,λ_ _ h=>(by cases h),λ_ _ _ h=>(by cases h),RD.str _,trivial⟩
 rw [if_neg hb] at hx; cases hx
theorem Lc {l:List UInt8} (h:(l.all λc=>decide (c.toNat<128))=true) (j:Nat) (b:UInt8) (hb:l[j]? =some b):b.toNat<128:=by
 have:=List.all_eq_true.1 h b (List.mem_of_getElem? hb)
 simpa using this
theorem Np {T:uJ (ByteArray×ByteArray)} (he:∀ x,T.enc x=[.c (.str x.1),.c (.str x.2)]) (hp:∀ x,T.pre x=((wR x.1 x.2).isSome=true)) (hr:∀ x,T.res x=[.c (.d (.int .i64 ((wR x.1 x.2).getD default)))]) (hal:T.al=false):Valid Tryz.prog 308 T.sp:=by
 refine Ef hal λx S0 w vs hx hg _ ha=> ?_
 rw [he] at ha
 obtain ⟨v,u,rfl,hv,hu⟩:=OZ ha
 obtain rfl:=pI hv
 obtain rfl:=pI hu
 obtain ⟨s,t⟩:=x
 rw [hp] at hx
 rw [hr]
 simp only [wR] at hx ⊢
 by_cases hb:(s.size<4294967281/\t.size<4294967281)/\(s.data.toList.all λc=>decide (c.toNat<128))=true/\(t.data.toList.all λc=>decide (c.toNat<128))=true
 ·rw [if_pos hb]
  refine (Tryz.strings_IndexAny_laid s t w hb.1.1 hb.1.2 (Lc hb.2.1) (Lc hb.2.2)).mono ?_
  rintro e w' ⟨rfl,hw⟩
  exact ⟨_,rfl,hw,λ_=>none,λ_ _ h=>(by cases h),λ_ _ _ h=>(by cases h),RD.int _ _,trivial⟩
 rw [if_neg hb] at hx; cases hx
end Go.Proofs.YtnepigpnlnmlmaaGreatDoor

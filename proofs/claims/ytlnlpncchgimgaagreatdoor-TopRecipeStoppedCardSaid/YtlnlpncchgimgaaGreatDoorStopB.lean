/- Ticks as strings: written and read again. -/
import Derived.Test.YtlnlpncchgimgaaGreatDoorF06
import Derived.Test.YtlnlpncchgimgaaGreatDoorF07
import Derived.Test.YtlnlpncchgimgaaGreatDoorF08
import Derived.Test.YtlnlpncchgimgaaGreatDoorStrA
import Derived.Test.YtlnlpncchgimgaaGreatDoorStopA
set_option linter.unusedVariables false
set_option linter.unusedSimpArgs false
namespace Go.Proofs.YtlnlpncchgimgaaGreatDoor
open Go.Abs
theorem ix_at {c:UInt8}:∀ (x r:List UInt8),c∉x→Lib.indexByte (x++c::r) c=x.length
 | [],r,_=>by rw [List.nil_append,Lib.indexByte]; simp
 | b::x,r,h=>by
  have hb:(b == c)=false:=by simp; intro e; subst e; exact h (List.mem_cons_self ..)
  rw [List.cons_append,Lib.indexByte,hb,ix_at x r (fun hx=>h (List.mem_cons_of_mem _ hx))]
  simp<;>omega
theorem ix_none {c:UInt8} {l:List UInt8} (h:c∉l):Lib.indexByte l c= -1:=by
 rcases cut_index (c:=c) l with ⟨h1,_⟩ | ⟨i,_,h2,_,h4⟩
 ·exact h1
 ·exact absurd (by rw [h4]; simp) h
def wd (n:Int):List UInt8:=Lib.itoa n
theorem wd_ok {n:Int} (h:0≤n∧n≤10000):Canon (wd n)∧(wd n).length≤5∧(valF 0 (wd n):Int)=n∧(∀ c∈wd n,dig c)∧r34 n=some (lb (wd n)):=by
 obtain ⟨k,rfl⟩:∃ k:Nat,n=k:=⟨n.toNat,by omega⟩
 have hd:=dd_canon k
 have e:wd (k:Int)=Lib.decDigits k:=itoa_pos k
 rw [e]
 refine ⟨hd.1,?_,by rw [hd.2.1],hd.1.2.1,?_⟩
 ·by_cases hk:k=10000
  ·subst hk; decide +kernel
  ·have:=dd_len k 4 (by have:10 ^ 4=10000:=rfl; omega); omega
 ·show itoaV (k:Int)=_
  rw [itoaV,if_pos ⟨by omega,by omega⟩,itoaB, ← e]; rfl
theorem nat_ok {n:Int} (h:0≤n∧n≤10000):r33 (lb (wd n))=some (n,true):=by
 obtain ⟨h1,h2,h3,h4,h5⟩:=wd_ok h
 have ha:atoiE (wd n)=(n,false):=by rw [atoiE_canon h1 (by omega),h3]
 have e:r62 (lb (wd n))=some (n,false):=by
  show atoiV (lb (wd n))=_
  rw [atoiV,if_pos (by rw [size_lb]; omega)]; exact congrArg some ha
 unfold r33
 rw [e,Option.bind_some]
 simp only [h5]
 rw [if_pos (show (!false && decide (n≥0))=true→(some (lb (wd n))).isSome=true from fun _=>rfl)]
 have q1:decide (n≥0)=true:=decide_eq_true h.1
 have q2:decide (((lb (wd n)).size:Int)≤5)=true:=decide_eq_true (by rw [size_lb]; omega)
 rw [q1,q2,Option.getD_some,decide_eq_true rfl]; rfl
def tkB (x:Int×Int):List UInt8:=wd x.1++32::wd x.2
def TkOk (x:Int×Int):Prop:=(0≤x.1∧x.1≤10000)∧0≤x.2∧x.2≤10000
theorem tk_len {x:Int×Int} (h:TkOk x):(tkB x).length≤11:=by
 have h1:=wd_ok h.1; have h2:=wd_ok h.2
 simp [tkB]; omega
theorem tk_no {x:Int×Int} (h:TkOk x):(59:UInt8)∉tkB x:=by
 have h1:=wd_ok h.1; have h2:=wd_ok h.2
 have n1:=dig_no (c:=59) (by decide) h1.2.2.2.1
 have n2:=dig_no (c:=59) (by decide) h2.2.2.2.1
 intro hm
 rcases List.mem_append.1 hm with hm | hm
 ·exact n1 hm
 ·rcases List.mem_cons.1 hm with hm | hm
  ·exact absurd hm (by decide)
  ·exact n2 hm
theorem jn_len (c:UInt8) (k:Nat):∀ l:List (List UInt8),(∀ x∈l,x.length≤k)→(jn c l).length≤l.length*(k+1)
 | [],_=>by simp [jn]
 | [x],h=>by have:=h x (by simp); simp [jn]; omega
 | x::y::r,h=>by
  have h1:=h x (by simp)
  have ih:=jn_len c k (y::r) (fun z hz=>h z (List.mem_cons_of_mem _ hz))
  rw [jn,List.length_append,List.length_cons,List.length_cons,Nat.succ_mul]; omega
theorem fmt {t:TL} (ht:t.length≤200) (hx:∀ x∈t,TkOk x):r10 t=some (lb (jn 59 (t.map tkB))):=by
 unfold r10
 refine iter_inv (b10_1 t) (fun i s=>s=((t.take i).map fun x=>lb (tkB x),(i:Int))) (fun o=>o=some (lb (jn 59 (t.map tkB)))) t.length ?_ ?_ _ rfl _ (by omega)
 ·rintro i _ hi rfl
  have h:=hx _ (getD_mem hi)
  obtain ⟨-,l1,-,-,e1⟩:=wd_ok h.1
  obtain ⟨-,l2,-,-,e2⟩:=wd_ok h.2
  refine .inl ⟨((t.take (i+1)).map fun x=>lb (tkB x),((i+1:Nat):Int)),?_,rfl⟩
  have hs:(#[32]:Array UInt8).size=1:=rfl
  have hlen:((t.take i).map fun x=>lb (tkB x)).length=i:=by simp; omega
  simp only [b10_1,ltN hi,if_true,if_pos (rgN hi),Int.toNat_natCast,wS i (by omega),bindC,e1,e2,size_lb,hs,hlen]
  rw [if_pos (by omega),if_pos (by omega),if_pos (by omega)]
  congr 2
  rw [List.take_add_one,List.getElem?_eq_getElem hi,List.map_append]
  have e3:(lb (wd (t.getD i default).1)++(⟨#[32]⟩:ByteArray))++lb (wd (t.getD i default).2)=lb (tkB t[i]):=by
   rw [show (⟨#[32]⟩:ByteArray)=lb [32] from rfl,lb_app,lb_app,List.getD_eq_getElem?_getD,List.getElem?_eq_getElem hi,Option.getD_some]
   simp [tkB]
  rw [e3]; rfl
 ·rintro _ rfl
  refine ⟨some (lb (jn 59 (t.map tkB))),?_,rfl⟩
  simp only [b10_1,geN,Bool.false_eq_true,if_false]
  rw [List.take_of_length_le (Nat.le_refl _)]
  have ej:joinB (t.map fun x=>lb (tkB x)) ⟨#[59]⟩=lb (jn 59 (t.map tkB)):=by
   rw [joinB_jn,List.map_map]; rfl
  have e:r35 (t.map fun x=>lb (tkB x)) ⟨#[59]⟩=some (lb (jn 59 (t.map tkB))):=by
   show joinV _ _=_
   have hj:=jn_len 59 11 (t.map tkB) (by intro x hx'; obtain ⟨y,hy,rfl⟩:=List.mem_map.1 hx'; exact tk_len (hx y hy))
   rw [List.length_map] at hj
   rw [joinV,if_pos ⟨by rw [List.length_map]; omega,by rw [ej,size_lb]; omega⟩,ej]
  rw [e]; rfl
theorem cutT {x:Int×Int} (h:TkOk x):r32 (lb (tkB x)) ⟨#[32]⟩=some (lb (wd x.1),lb (wd x.2),true):=by
 obtain ⟨-,l1,-,d1,-⟩:=wd_ok h.1
 obtain ⟨-,l2,-,-,-⟩:=wd_ok h.2
 have n1:=dig_no (c:=32) (by decide) d1
 have e:r98 (lb (tkB x)) ⟨#[32]⟩=some ((wd x.1).length:Int):=by
  show some (Lib.indexByte (tkB x) 32)=_
  rw [tkB,ix_at _ _ n1]
 have hs:(⟨#[32]⟩:ByteArray).size=1:=rfl
 have hl:(lb (tkB x)).size=(wd x.1).length+(1+(wd x.2).length):=by rw [size_lb,tkB,List.length_append,List.length_cons]; omega
 unfold r32 r61
 rw [e,Option.bind_some,if_pos (by simp),if_pos ⟨by omega,by omega,by rw [hl]; omega⟩,hs]
 have hw:IntKind.i64.wrap (((wd x.1).length:Int)+((1:Nat):Int))=((wd x.1).length:Int)+1:=IntWalk.i64_in _ ⟨by omega,by omega⟩
 rw [hw,if_pos ⟨by omega,by rw [hl]; omega,by omega⟩,Option.bind_some,Int.toNat_natCast]
 have ht:(((wd x.1).length:Int)+1).toNat=(wd x.1).length+1:=by omega
 rw [ht,lb_extract,lb_extract,hl]
 have p1:((tkB x).drop 0).take ((wd x.1).length - 0)=wd x.1:=by simp [tkB]
 have p2:((tkB x).drop ((wd x.1).length+1)).take ((wd x.1).length+(1+(wd x.2).length) - ((wd x.1).length+1))=wd x.2:=by
  rw [tkB,List.drop_append,List.drop_eq_nil_of_le (by omega),show (wd x.1).length+1 - (wd x.1).length=1 by omega]
  simp
  exact List.take_of_length_le (by omega)
 rw [p1,p2]
theorem prs {t:TL} (ht:t.length≤200) (hx:∀ x∈t,TkOk x):r9 (lb (jn 59 (t.map tkB)))=some (t,0):=by
 have hj:=jn_len 59 11 (t.map tkB) (by intro x hx'; obtain ⟨y,hy,rfl⟩:=List.mem_map.1 hx'; exact tk_len (hx y hy))
 rw [List.length_map] at hj
 unfold r9
 rw [if_neg (by simp [size_lb]; omega)]
 match t,ht,hx,hj with
 | [],_,_,_=>rfl
 | x0::t0,ht,hx,hj=>
  have hne:jn 59 ((x0::t0).map tkB)≠[]:=by
   intro e
   have:(tkB x0)≠[]:=by simp [tkB]
   cases t0 with
   | nil=>exact this (by simpa [jn] using e)
   | cons y r=>simp [jn] at e
  have hE:decide (lb (jn 59 ((x0::t0).map tkB))=(⟨#[]⟩:ByteArray))=false:=by
   rw [decide_eq_false_iff_not,show (⟨#[]⟩:ByteArray)=lb [] from rfl,lb_inj]; exact hne
  obtain ⟨A,hA⟩:∃ A,A=lb (jn 59 ((x0::t0).map tkB)):=⟨_,rfl⟩
  rw [← hA] at hE ⊢
  have key:∀ (r:TL) (y:Int×Int) (o:TL) (fuel:Nat),r.length<fuel→o.length+r.length≤200→(∀ x∈y::r,TkOk x)→iterC (b9_1 A) fuel (lb (jn 59 ((y::r).map tkB)),o)=some (o++y::r,0):=by
   intro r
   induction r with
   | nil=>
    intro y o fuel hf ho hy
    obtain ⟨m,rfl⟩:∃ m,fuel=m+1:=⟨fuel - 1,by omega⟩
    have h:=hy y (by simp)
    have e1:r97 (lb (tkB y)) ⟨#[59]⟩=some (-1):=by
     show some (Lib.indexByte (tkB y) 59)=_
     rw [ix_none (tk_no h)]
    have ho':o.length≤200:=by simpa using ho
    simp only [List.map_cons,List.map_nil,jn,iterC,b9_1,e1,bindC,hE,cutT h,nat_ok h.1,nat_ok h.2,Option.bind_some]
    rw [if_pos (by decide)]
    simp only [Bool.false_eq_true,if_false,Bool.not_true,Bool.or_self]
    rw [if_pos ⟨by omega,by omega⟩]
   | cons z r ih=>
    intro y o fuel hf ho hy
    obtain ⟨m,rfl⟩:∃ m,fuel=m+1:=⟨fuel - 1,by omega⟩
    have h:=hy y (by simp)
    have hl:=tk_len h
    have e0:jn 59 ((y::z::r).map tkB)=tkB y++59::jn 59 ((z::r).map tkB):=rfl
    have e1:r97 (lb (tkB y++59::jn 59 ((z::r).map tkB))) ⟨#[59]⟩=some ((tkB y).length:Int):=by
     show some (Lib.indexByte (tkB y++59::jn 59 ((z::r).map tkB)) 59)=_
     rw [ix_at _ _ (tk_no h)]
    have w0:IntKind.i64.wrap (((tkB y).length:Int)+0)=(tkB y).length:=by rw [Int.add_zero]; exact IntWalk.i64_in _ ⟨by omega,by omega⟩
    have w1:IntKind.i64.wrap (((tkB y).length:Int)+1)=((tkB y).length:Int)+1:=IntWalk.i64_in _ ⟨by omega,by omega⟩
    have hs:(lb (tkB y++59::jn 59 ((z::r).map tkB))).size=(tkB y).length+(1+(jn 59 ((z::r).map tkB)).length):=by rw [size_lb,List.length_append,List.length_cons]; omega
    have x1:(lb (tkB y++59::jn 59 ((z::r).map tkB))).extract 0 ((tkB y).length:Int).toNat=lb (tkB y):=by
     rw [Int.toNat_natCast,lb_extract]; simp
    have x2:(lb (tkB y++59::jn 59 ((z::r).map tkB))).extract (((tkB y).length:Int)+1).toNat ((tkB y).length+(1+(jn 59 ((z::r).map tkB)).length))=lb (jn 59 ((z::r).map tkB)):=by
     have:(((tkB y).length:Int)+1).toNat=(tkB y).length+1:=by omega
     rw [this,lb_extract,List.drop_append,List.drop_eq_nil_of_le (by omega),show (tkB y).length+1 - (tkB y).length=1 by omega,List.nil_append,List.drop_succ_cons,List.drop_zero,List.take_of_length_le (by omega)]
    rw [List.length_cons] at ho
    have hb:b9_1 A (lb (jn 59 ((y::z::r).map tkB)),o)= .next (lb (jn 59 ((z::r).map tkB)),o++[y]):=by
     rw [e0]
     unfold b9_1
     simp only [e1,bindC]
     rw [if_neg (by simp)]
     simp only [w0,w1,x1,hs,x2,hE,cutT h,nat_ok h.1,nat_ok h.2,Bool.false_eq_true,if_false,Bool.not_true,Bool.or_self]
     rw [if_pos ⟨by omega,by omega,by omega⟩,if_pos ⟨by omega,by omega⟩,if_pos ⟨by omega,by omega,by omega⟩]
    simp only [iterC,hb]
    rw [ih z (o++[y]) m (by rw [List.length_cons] at hf; omega) (by rw [List.length_append,List.length_singleton]; omega) (fun x hx=>hy x (List.mem_cons_of_mem _ hx))]
    simp
  have:=key t0 x0 [] 1000000000 (by rw [List.length_cons] at ht; omega) (by rw [List.length_cons] at ht; simp; omega) hx
  rw [← hA,List.nil_append] at this
  exact this
end Go.Proofs.YtlnlpncchgimgaaGreatDoor

/- Classes of recipes: errors, numbers and recipes, by the code and by the reference; RecipeClasses. -/
import Derived.Test.YtnepigpnlnmlmaaGreatDoorF02
import Derived.Test.YtnepigpnlnmlmaaGreatDoorF17
import Derived.Test.YtnepigpnlnmlmaaGreatDoorF19
import Derived.Test.YtnepigpnlnmlmaaGreatDoorF20
import Derived.Test.YtnepigpnlnmlmaaGreatDoorF23
import Derived.Test.YtnepigpnlnmlmaaGreatDoorF24
import Derived.Test.YtnepigpnlnmlmaaGreatDoorRecI
set_option linter.unusedVariables false
set_option linter.unusedSimpArgs false
namespace Go.Proofs.YtnepigpnlnmlmaaGreatDoor
open Go.Abs
abbrev Ch:=Int×Int×Int×Int×Int×Hl×List Int
abbrev tks (x:Ch):List Int:=x.2.2.2.2.2.2
def tmd (x:Ch) (n:Int):Ph:=(x.1,x.2.1,x.2.2.1,n,x.2.2.2.2.1,x.2.2.2.2.2.1)
def tkI:Int→List Int→Int
 | _,[]=>0
 | last,n::r=>if inR n 1 200=true then (if last<n then tkI n r else 9) else 2
def choE (x:Ch):Int:=if (x.2.2.2.1 == 0 && x.1 != 5)=true then (if (tks x).length=0 then 10 else if phE 0 (tmd x ((tks x).getD 0 default))=0 then tkI 0 (tks x) else phE 0 (tmd x ((tks x).getD 0 default))) else 20
def exI {α:Type} (E:α→Int):Int→List α→Int×Int
 | _,[]=>(0,0)
 | i,x::r=>if E x=0 then exI E (i+1) r else (i,E x)
theorem exI_all {α:Type} {E:α→Int}:∀ {l:List α} {i:Int},(exI E i l).2=0→∀ x∈l,E x=0
 | [],_,_,x,hx=>by cases hx
 | y::r,i,h,x,hx=>by
  rw [exI] at h
  by_cases c:E y=0
  ·rw [if_pos c] at h
   rcases List.mem_cons.1 hx with rfl | hx
   ·exact c
   ·exact exI_all h x hx
  ·rw [if_neg c] at h; exact absurd h c
def capC (n:Int) (x:Ch):Int:=if 61<IntKind.i64.wrap (n*((tks x).length:Int)) then 61 else IntKind.i64.wrap (n*((tks x).length:Int))
def capY (n:Int) (y:List Int):Int:=if 61<IntKind.i64.wrap (n*(y.length:Int)) then 61 else IntKind.i64.wrap (n*(y.length:Int))
def cntC:Int→List Ch→Int
 | n,[]=>n
 | n,x::r=>cntC (capC n x) r
def clsE (l:List Ch):Int×Int:=if l.length=0 then (0,10) else if 12<l.length then (0,8) else if (exI choE 0 l).2=0 then (if cntC 1 l≤60 then (if coldB (l.getD (l.length - 1) default).1=true then (0,0) else (0,20)) else (0,8)) else exI choE 0 l
theorem first29 (c r:Bool):firstV [codeIf c 2,codeIf r 9]=if c=true then (if r=true then 0 else 9) else 2:=by cases c<;>cases r<;>rfl
theorem first20 (c r:Bool):firstV [codeIf c 20,codeIf r 10]=if c=true then (if r=true then 0 else 10) else 20:=by cases c<;>cases r<;>rfl
theorem first820 (c r:Bool):firstV [codeIf c 8,codeIf r 20]=if c=true then (if r=true then 0 else 20) else 8:=by cases c<;>cases r<;>rfl
theorem first108 (c r:Bool):firstV [codeIf c 10,codeIf r 8]=if c=true then (if r=true then 0 else 8) else 10:=by cases c<;>cases r<;>rfl
theorem tk_fold:∀ (r:List Int) (i last:Int),foldC (fun _ last x=>if inR x 1 200=true then (if last<x then (.next x:Ctl Int Int) else .out (some 9)) else .out (some 2)) (fun _=>some 0) i r last=some (tkI last r)
 | [],_,_=>rfl
 | x::r,i,last=>by
  simp only [foldC,tkI]
  by_cases h1:inR x 1 200=true
  ·simp only [if_pos h1]
   by_cases h2:last<x
   ·simp only [if_pos h2]; exact tk_fold r _ _
   ·simp only [if_neg h2]
  ·simp only [if_neg h1]
theorem tkC (l:List Int) (hl:l.length<1000):iterC (b66_1 l) 1000000000 (0,0)=some (tkI 0 l):=by
 rw [iter_list (τ:=Int) l (b66_1 l) (fun i t=>(t,i)) (fun _ last x=>if inR x 1 200=true then (if last<x then (.next x:Ctl Int Int) else .out (some 9)) else .out (some 2)) (fun _=>some 0) (by omega)
  (fun i t hi=>by
   simp only [b66_1,ltN hi,if_true,if_pos (rgN hi),Int.toNat_natCast,wS i (by omega),wit,unl,bC0,fst _ (show [codeIf (inR (l.getD i default) 1 200) 2,codeIf (decide (l.getD i default>t)) 9].length<1000000000 by simp),first29]
   generalize l.getD i default=x
   by_cases h1:inR x 1 200=true
   ·by_cases h2:t<x
    ·simp [h1,h2]; rfl
    ·simp [h1,h2]; rfl
   ·simp [h1]; rfl)
  (fun t=>by simp only [b66_1,geN,Bool.false_eq_true,if_false]) 0]
 exact tk_fold l 0 0
theorem timedC (x:Ch) {i:Int} (h:0≤i∧i<((tks x).length:Int)):r129 x.1 x.2.1 x.2.2.1 x.2.2.2.1 x.2.2.2.2.1 x.2.2.2.2.2.1 (tks x) i=some (tmd x ((tks x).getD i.toNat default)):=by
 unfold r129; rw [if_pos h]; rfl
theorem withR (x:Ch) {i:Int} (h:0≤i∧i<((tks x).length:Int)):r74 x.1 x.2.1 x.2.2.1 x.2.2.2.1 x.2.2.2.2.1 x.2.2.2.2.2.1 (tks x) i=some (tmd x ((tks x).getD i.toNat default)):=by
 unfold r74; rw [if_pos h]; rfl
theorem with0 (x:Ch) (h:(tks x).length≠0):r74 x.1 x.2.1 x.2.2.1 x.2.2.2.1 x.2.2.2.2.1 x.2.2.2.2.2.1 (tks x) 0=some (tmd x ((tks x).getD 0 default)):=withR x (i:=0) ⟨by omega,by omega⟩
theorem choC (x:Ch) (hx:(tks x).length<1000):r66 x.1 x.2.1 x.2.2.1 x.2.2.2.1 x.2.2.2.2.1 x.2.2.2.2.2.1 (tks x)=some (choE x):=by
 unfold r66 choE
 rw [unl,Option.bind_some,unl,Option.bind_some,fst _ (by simp),Option.bind_some,first20]
 cases hc:(x.2.2.2.1 == 0 && x.1 != 5) with
 | false=>simp
 | true=>
  by_cases h0:(tks x).length=0
  ·have e:decide (((tks x).length:Int)>0)=false:=decide_eq_false (by omega)
   rw [e,if_pos h0]; simp
  have e:decide (((tks x).length:Int)>0)=true:=decide_eq_true (by omega)
  rw [e,if_neg h0,if_pos rfl,if_pos rfl,if_neg (by decide),timedC x ⟨by omega,by omega⟩,Option.bind_some,phaseC 7 0 (by decide) (by decide) (by decide),Option.bind_some,if_pos rfl]
  by_cases hp:phE 0 (tmd x ((tks x).getD (0:Int).toNat default))=0
  ·rw [if_neg (by simpa using hp),tkC _ hx]
   exact congrArg some (if_pos hp).symm
  ·rw [if_pos (by simpa using hp)]
   exact congrArg some (if_neg hp).symm
theorem cnt_fold:∀ (r:List Ch) (i n:Int),foldC (fun _ n x=>(.next (capC n x):Ctl Int Int)) (fun n=>some n) i r n=some (cntC n r)
 | [],_,_=>rfl
 | x::r,i,n=>by simp only [foldC,cntC]; exact cnt_fold r _ _
theorem cntCode (l:List Ch) (hl:l.length<1000):r67 l=some (cntC 1 l):=by
 unfold r67
 rw [iter_list (τ:=Int) l (b67_1 l) (fun i t=>(t,i)) (fun _ n x=>(.next (capC n x):Ctl Int Int)) (fun n=>some n) (by omega)
  (fun i t hi=>by simp only [b67_1,ltN hi,if_true,if_pos (rgN hi),Int.toNat_natCast,wS i (by omega)]; rfl)
  (fun t=>by simp only [b67_1,geN,Bool.false_eq_true,if_false]) 1]
 exact cnt_fold l 0 1
theorem ex_fold {α:Type} (E:α→Int) (fin:Option (Int×Int)):∀ (r:List α) (i:Int),foldC (fun i _ x=>if E x=0 then (.next ():Ctl Unit (Int×Int)) else .out (some (i,E x))) (fun _:Unit=>fin) i r ()=if (exI E i r).2=0 then fin else some (exI E i r)
 | [],_=>rfl
 | x::r,i=>by
  simp only [foldC,exI]
  by_cases h:E x=0
  ·simp only [if_pos h]; exact ex_fold E fin r _
  ·simp only [if_neg h]
theorem lastI {l:List Ch} (h0:l.length≠0) (hl:l.length<1000):IntKind.i64.wrap ((l.length:Int) - 1)=((l.length - 1:Nat):Int):=by
 rw [IntWalk.i64_in _ ⟨by omega,by omega⟩]; omega
theorem classC (l:List Ch) (hl:l.length<1000) (ht:∀ x∈l,(tks x).length<1000):r11 l=some (clsE l):=by
 unfold r11 clsE
 rw [unl,Option.bind_some,unl,Option.bind_some,fst _ (by simp),Option.bind_some,first108]
 by_cases h0:l.length=0
 ·have e:decide ((l.length:Int)>0)=false:=decide_eq_false (by omega)
  rw [e,if_pos h0]; simp
 have e:decide ((l.length:Int)>0)=true:=decide_eq_true (by omega)
 rw [e,if_neg h0,if_pos rfl]
 by_cases h12:12<l.length
 ·have e:decide ((l.length:Int)≤12)=false:=decide_eq_false (by omega)
  rw [e,if_pos h12]; simp
 have e:decide ((l.length:Int)≤12)=true:=decide_eq_true (by omega)
 rw [e,if_neg h12,if_pos rfl,if_neg (by decide)]
 rw [iter_list (τ:=Unit) l (b11_1 l) (fun i _=>i) (fun i _ x=>if choE x=0 then (.next ():Ctl Unit (Int×Int)) else .out (some (i,choE x))) (fun _=>if cntC 1 l≤60 then (if coldB (l.getD (l.length - 1) default).1=true then some (0,0) else some (0,20)) else some (0,8)) (by omega)
  (fun i t hi=>by
   simp only [b11_1,ltN hi,if_true,if_pos (rgN hi),Int.toNat_natCast,wS i (by omega),choC _ (ht _ (getD_mem hi)),bC0]
   by_cases c:choE (l.getD i default)=0
   ·rw [if_pos c,if_neg (by simpa using c)]; rfl
   ·rw [if_neg c,if_pos (by simpa using c)]; rfl)
  (fun t=>by
   simp only [b11_1,geN,Bool.false_eq_true,if_false]
   rw [cntCode l hl,Option.bind_some,unl,Option.bind_some,lastI h0 hl,if_pos ⟨by omega,by omega⟩,Int.toNat_natCast]
   show Ctl.out ((r68 _).bind _)=_
   rw [show r68 (l.getD (l.length - 1) default).1=some (coldB (l.getD (l.length - 1) default).1) from rfl,Option.bind_some,unl,Option.bind_some,fst _ (by simp),Option.bind_some,first820]
   by_cases c:cntC 1 l≤60
   ·rw [if_pos c,decide_eq_true c,if_pos rfl]
    cases coldB (l.getD (l.length - 1) default).1<;>rfl
   ·rw [if_neg c,decide_eq_false c]; rfl) ()]
 refine (ex_fold choE _ l 0).trans ?_
 by_cases c:(exI choE 0 l).2=0
 ·rw [if_pos c,if_pos c]
  split<;>(try split)<;>rfl
 ·rw [if_neg c,if_neg c]
def befI (l:List Int) (i:Nat):Int:=if i=0 then 0 else l.getD (i - 1) default
theorem tkR (l:List Ch) (s:Int×Int) (y:List Int) (hx:(l.getD s.2.toNat default).2.2.2.2.2.2=y) (ht:y.length<1000) :
 iterC (b15_4 l s) 1000000000 0=some (if tkI 0 y=0 then .next (capY s.1 y,IntKind.i64.wrap (s.2+1)) else .out (some (s.2,tkI 0 y))):=by
 refine iter_inv (b15_4 l s) (fun i k=>k=(i:Int)∧tkI 0 y=tkI (befI y i) (y.drop i)) (fun o=>o=some (if tkI 0 y=0 then .next (capY s.1 y,IntKind.i64.wrap (s.2+1)) else .out (some (s.2,tkI 0 y)))) y.length ?_ ?_ _ ⟨rfl,rfl⟩ _ (by omega)
 ·rintro i _ hi ⟨rfl,hk⟩
  have hd:y.drop i=y.getD i default::y.drop (i+1):=by
   rw [List.drop_eq_getElem_cons hi,List.getD_eq_getElem?_getD,List.getElem?_eq_getElem hi]; rfl
  rw [hd,tkI] at hk
  have hb:befI y (i+1)=y.getD i default:=rfl
  simp only [b15_4,hx,ltN hi,if_true,if_pos (rgN hi),Int.toNat_natCast,wS i (by omega),p59,bC0]
  by_cases h1:inR (y.getD i default) 1 200=true
  ·rw [if_pos h1] at hk
   have h1':=inR_iff'.1 h1
   rw [h1,if_neg (by decide)]
   by_cases h0:i=0
   ·subst h0
    have hlt:befI y 0<y.getD 0 default:=by show (0:Int)<_; omega
    rw [if_pos hlt] at hk
    refine .inl ⟨((0+1:Nat):Int),?_,rfl,by rw [hb]; exact hk⟩
    simp only [show decide (((0:Nat):Int)>0)=false from rfl,Bool.false_eq_true,false_implies,if_true,Bool.false_and,if_false]; rfl
   ·have hw:IntKind.i64.wrap ((i:Int) - 1)=((i - 1:Nat):Int):=by rw [IntWalk.i64_in _ ⟨by omega,by omega⟩]; omega
    have hbe:befI y i=y.getD (i - 1) default:=if_neg h0
    have hpos:decide ((i:Int)>0)=true:=decide_eq_true (by omega)
    rw [hw,hpos,Int.toNat_natCast,if_pos (fun _=>⟨by omega,by omega⟩),if_pos (fun _=>⟨by omega,by omega⟩),Bool.true_and]
    by_cases h2:befI y i<y.getD i default
    ·rw [if_pos h2] at hk
     rw [if_neg (by rw [decide_eq_true_eq]; rw [hbe] at h2; omega)]
     exact .inl ⟨_,rfl,rfl,by rw [hb]; exact hk⟩
    ·rw [if_neg h2] at hk
     rw [if_pos (by rw [decide_eq_true_eq]; rw [hbe] at h2; omega)]
     refine .inr ⟨_,rfl,?_⟩
     rw [hk,if_neg (by decide)]
  ·rw [if_neg h1] at hk
   have h1':inR (y.getD i default) 1 200=false:=by simpa using h1
   rw [h1',if_pos (by rfl)]
   refine .inr ⟨_,rfl,?_⟩
   rw [hk,if_neg (by decide)]
 ·rintro _ ⟨rfl,hk⟩
  rw [List.drop_length,tkI] at hk
  simp only [b15_4,hx,geN,Bool.false_eq_true,if_false]
  refine ⟨_,rfl,?_⟩
  rw [hk,if_pos rfl]; rfl
theorem ph_own {d:Int} {x:Ph} (h:x.1≠5):phE d x=ownE x.1 x.2.1 x.2.2.1 x.2.2.2.1 x.2.2.2.2.1 (hN x.2.2.2.2.2 == 0):=ph_ne5 h
theorem exc_fold (fin:Int→Option (Int×Int)):∀ (r:List Ch) (i n:Int),foldC (fun i n x=>if choE x=0 then (.next (capC n x):Ctl Int (Int×Int)) else .out (some (i,choE x))) fin i r n=if (exI choE i r).2=0 then fin (cntC n r) else some (exI choE i r)
 | [],_,_=>rfl
 | x::r,i,n=>by
  simp only [foldC,exI,cntC]
  by_cases h:choE x=0
  ·simp only [if_pos h]; exact exc_fold fin r _ _
  ·simp only [if_neg h]
theorem classR (l:List Ch) (hl:l.length<1000) (ht:∀ x∈l,(tks x).length<1000):r15 l=some (clsE l):=by
 unfold r15 clsE
 by_cases h0:l.length=0
 ·rw [if_pos h0,if_pos (by rw [h0]; rfl)]
 rw [if_neg h0,if_neg (by simp; intro h; exact h0 (by rw [h]; rfl))]
 by_cases h12:12<l.length
 ·rw [if_pos h12,if_pos (decide_eq_true (by omega))]
 rw [if_neg h12,if_neg (by rw [decide_eq_true_eq]; omega)]
 rw [iter_list (τ:=Int) l (b15_1 l) (fun i t=>(t,i)) (fun i n x=>if choE x=0 then (.next (capC n x):Ctl Int (Int×Int)) else .out (some (i,choE x))) (fun n=>if n≤60 then (if coldB (l.getD (l.length - 1) default).1=true then some (0,0) else some (0,20)) else some (0,8)) (by omega)
  (fun i t hi=>by
   have htx:=ht _ (getD_mem hi)
   have htk:=tkR l (t,(i:Int)) (tks (l.getD i default)) (by rw [Int.toNat_natCast]) htx
   simp only [b15_1,ltN hi,if_true,if_pos (rgN hi),Int.toNat_natCast]
   rw [wS i (by omega)] at htk
   generalize hx:l.getD i default=x at htx htk
   unfold choE
   by_cases hk:(x.2.2.2.1 == 0 && x.1 != 5)=true
   rotate_left
   ·rw [if_neg hk,if_pos (by
     rw [Bool.and_eq_true,beq_iff_eq,bne_iff_ne,Classical.not_and_iff_not_or_not] at hk
     rw [Bool.or_eq_true,bne_iff_ne,beq_iff_eq]
     rcases hk with hk | hk
     ·exact .inl hk
     ·exact .inr (Classical.not_not.1 hk)),if_neg (by decide)]
    rfl
   rw [if_pos hk]
   rw [Bool.and_eq_true,beq_iff_eq,bne_iff_ne] at hk
   rw [if_neg (by rw [Bool.or_eq_true,bne_iff_ne,beq_iff_eq]; intro h; rcases h with h | h; exact h hk.1; exact hk.2 h)]
   by_cases hz:(tks x).length=0
   ·rw [if_pos hz,if_pos (by rw [show x.2.2.2.2.2.2.length=0 from hz]; rfl),if_neg (by decide)]; rfl
   have hz':¬ ((x.2.2.2.2.2.2.length:Int)=0):=by have:x.2.2.2.2.2.2.length≠0:=hz; omega
   rw [if_neg hz,if_neg (by rw [beq_iff_eq]; exact hz'),with0 x hz,bC0,p59,bC0]
   show (if (!inR (tmd x ((tks x).getD 0 default)).1 0 5)=true then _ else _)=_
   have hk5:(tmd x ((tks x).getD 0 default)).1≠5:=hk.2
   rw [ph_own hk5]
   generalize tmd x ((tks x).getD 0 default)=y at hk5
   obtain ⟨k,p,l',t',q,b⟩:=y
   dsimp only at hk5 ⊢
   by_cases h1:inR k 0 5=true
   rotate_left
   ·have e:ownE k p l' t' q (hN b == 0)=15:=by unfold ownE; rw [if_neg h1]
    rw [e,if_pos (by simpa using h1)]; rfl
   rw [h1,if_neg (by decide),ofR,bC0]
   simp only [gt0,formR]
   by_cases hc:cleanB k p l' q (hN b == 0)=true
   rotate_left
   ·have e:ownE k p l' t' q (hN b == 0)=3:=by unfold ownE; rw [if_pos h1,if_neg hc]
    have hc':cleanB k p l' q (hN b == 0)=false:=by simpa using hc
    unfold cleanB at hc'
    rw [e,if_pos (by rw [hc']; rfl)]; rfl
   have hc':=hc
   unfold cleanB at hc'
   rw [if_neg (by rw [hc']; decide)]
   have b5:(k == 5)=false:=by simpa using hk5
   simp only [b5,Bool.false_eq_true,if_false,Bool.not_false,if_true,p59,kelvinR,Option.isSome_some,implies_true,Option.getD_some,rangeR]
   by_cases hr:rightB k p l' t' q=true
   rotate_left
   ·have e:ownE k p l' t' q (hN b == 0)=2:=by unfold ownE; rw [if_pos h1,if_pos hc,if_neg hr]
    have hr':rightB k p l' t' q=false:=by simpa using hr
    unfold rightB at hr'
    rw [if_neg hk5] at hr'
    rw [e,if_pos (by rw [hr']; rfl)]; rfl
   have e:ownE k p l' t' q (hN b == 0)=0:=by unfold ownE; rw [if_pos h1,if_pos hc,if_pos hr]
   have hr':=hr
   unfold rightB at hr'
   rw [if_neg hk5] at hr'
   rw [e,if_pos rfl,if_neg (by rw [hr']; decide),htk,Option.getD_some]
   split<;>rfl)
  (fun t=>by
   simp only [b15_1,geN,Bool.false_eq_true,if_false]
   by_cases c:t≤60
   ·rw [if_pos c,if_neg (by rw [decide_eq_true_eq]; omega),lastI h0 hl,if_pos ⟨by omega,by omega⟩,Int.toNat_natCast]
    show Ctl.out ((r75 _ _ _ _ _ _).bind _)=_
    unfold r75
    rw [Option.bind_some]
    show Ctl.out (if (!(coldB (l.getD (l.length - 1) default).1))=true then _ else _)=_
    cases coldB (l.getD (l.length - 1) default).1<;>rfl
   ·rw [if_neg c,if_pos (decide_eq_true (by omega))]) 1]
 refine (exc_fold _ l 0 1).trans ?_
 by_cases c:(exI choE 0 l).2=0
 ·rw [if_pos c,if_pos c]
  split<;>(try split)<;>rfl
 ·rw [if_neg c,if_neg c]
end Go.Proofs.YtnepigpnlnmlmaaGreatDoor

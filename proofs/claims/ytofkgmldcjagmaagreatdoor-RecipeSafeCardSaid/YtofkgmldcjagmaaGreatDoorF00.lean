/- Lists in cells, written by wip/dec. -/
import Derived.Test.YtofkgmldcjagmaaGreatDoorTy
import Derived.Test.YtofkgmldcjagmaaGreatDoorAbsTac
import Derived.Test.YtofkgmldcjagmaaGreatDoorLib
import Derived.WalkKit
set_option linter.unusedVariables false
set_option linter.unusedSimpArgs false
set_option linter.constructorNameAsVariable false
set_option maxHeartbeats 4000000
set_option maxRecDepth 20000
namespace Go.Proofs.YtofkgmldcjagmaaGreatDoor
open Go.dG
attribute [go_sem] D5 lZ lH abR Em fZ nZ abQ afp Bh afq lS
theorem ZX {α:Type} (r:List α):List.append [] r=r:=rfl
theorem Xj {α:Type} (a:α) (l r:List α):List.append (a::l) r=a::List.append l r:=rfl
attribute [go_sem] ZX Xj
section
variable {α β:Type} [Inhabited β] (e:α→List Arg) (d:List Arg→α) (f:α→Option β) (u:β→List RV) (al:Bool) (a:List Arg)
theorem mkP:(mkT e d f u al).sp.pre a=(eqvArgs a (e (d a))∧(f (d a)).isSome=true):=(rfl)
theorem mkR:(mkT e d f u al).sp.res a=u ((f (d a)).getD default):=(rfl)
theorem mkA:(mkT e d f u al).sp.alias=al:=(rfl)
end
attribute [go_sem] mkP mkR mkA
inductive Hl where
 | nil
 | cons (a:Int) (b:Int) (c:Int) (d:Int) (e:Int) (f r:Hl)
instance:Inhabited Hl:=⟨.nil⟩
abbrev bD:=List (Int×Int×Int×Int×Int×Hl)
def hU:Hl→bD
 | .nil=>[]
 | .cons a b c d e f r=>(a,b,c,d,e,f)::hU r
def hM:bD→Hl
 | []=> .nil
 | (a,b,c,d,e,f)::r=> .cons a b c d e f (hM r)
theorem Me:∀ l,hU (hM l)=l
 | []=>rfl
 | (a,b,c,d,e,f)::r=>by simp only [hM,hU,Me r]
theorem Vw:∀ x,hM (hU x)=x
 | .nil=>rfl
 | .cons a b c d e f r=>by simp only [hM,hU,Vw r]
def hN:Hl→Nat
 | .nil=>0
 | .cons _ _ _ _ _ _ r=>hN r+1
def hG:Hl→Nat→List D
 | .nil,_=>[]
 | .cons a b c d e f _,0=>[.int .i64 a,.int .i64 b,.int .i64 c,.int .i64 d,.int .i64 e,.sl 6 (hN f) (hG f)]
 | .cons _ _ _ _ _ _ r,i+1=>hG r i
def hE (x:Hl):D:= .sl 6 (hN x) (hG x)
def hB {α:Type} (f:Nat→α):Nat→Nat→List α
 | _,0=>[]
 | i,n+1=>f i::hB f (i+1) n
mutual
def hD:D→Hl
 | .sl _ n g=>hM (hB (fun i=>fV (g i)) 0 n)
 | _=> .nil
def fV:List D→Int×Int×Int×Int×Int×Hl
 | [.int _ a,.int _ b,.int _ c,.int _ d,.int _ e,f]=>(a,b,c,d,e,hD f)
 | _=>default
end
def bF (x:Int×Int×Int×Int×Int×Hl):List D:=[.int .i64 x.1,.int .i64 x.2.1,.int .i64 x.2.2.1,.int .i64 x.2.2.2.1,.int .i64 x.2.2.2.2.1,hE x.2.2.2.2.2]
theorem XV (x:Int×Int×Int×Int×Int×Hl):bF x=[.int .i64 x.1,.int .i64 x.2.1,.int .i64 x.2.2.1,.int .i64 x.2.2.2.1,.int .i64 x.2.2.2.2.1,hE x.2.2.2.2.2]:=by rw [bF]
theorem aaN:∀ x,(hU x).length=hN x
 | .nil=>rfl
 | .cons _ _ _ _ _ _ r=>by simp only [hU,hN,List.length_cons,aaN r]
theorem ajA:∀ x i,i<hN x→hG x i=bF ((hU x).getD i default)
 | .nil,_,h=>absurd h (by simp [hN])
 | .cons _ _ _ _ _ _ r,0,_=>rfl
 | .cons _ _ _ _ _ _ r,i+1,h=>by
  simp only [hG,hU,List.getD_cons_succ]
  exact ajA r i (by simp only [hN] at h; omega)
theorem aaR {α:Type} (f:Nat→α):∀ n i,hB f i n=(List.range n).map fun j=>f (i+j)
 | 0,_=>rfl
 | n+1,i=>by
  rw [hB,aaR f n (i+1),List.range_succ_eq_map,List.map_cons,List.map_map]
  congr 1
  refine List.map_congr_left fun j _=> ?_
  simp only [Function.comp]
  congr 1; omega
theorem ajB (s n:Nat) (g:Nat→List D):hD (.sl s n g)=hM (aG fV (.sl s n g)):=by
 rw [hD,aaR]
 simp only [aG,D.len,D.nth,Nat.zero_add]
theorem I9:∀ x,aG fV (hE x)=hU x
 | .nil=>rfl
 | .cons a b c d e f r=>by
  show (List.range (hN r+1)).map (fun i=>fV (hG (.cons a b c d e f r) i))=_
  rw [List.range_succ_eq_map,List.map_cons,List.map_map,hU]
  have h1:fV (hG (.cons a b c d e f r) 0)=(a,b,c,d,e,f):=by
   show fV [.int .i64 a,.int .i64 b,.int .i64 c,.int .i64 d,.int .i64 e,hE f]=_
   rw [fV,hE,ajB]
   have:=I9 f
   rw [hE] at this
   rw [this,Vw]
  rw [h1]
  congr 1
  exact I9 r
theorem ajD (x:Hl):hD (hE x)=x:=by
 show hD (.sl 6 (hN x) (hG x))=x
 rw [ajB]; show hM (aG fV (hE x))=x
 rw [I9,Vw]
theorem Xx (x:Int×Int×Int×Int×Int×Hl):fV (bF x)=x:=by
 show fV [_,_,_,_,_,_]=x
 rw [fV,ajD]
theorem qU (l:bD):aG fV (ah 6 bF l)=l:=bZ _ _ _ _ Xx
theorem ajC (l:bD):hD (ah 6 bF l)=hM l:=by
 show hD (.sl _ _ _)=_
 rw [ajB]; show hM (aG fV (ah 6 bF l))=_
 rw [qU]
theorem aaP (x:Hl):(hE x).len=(hU x).length:=(aaN x).symm
theorem aeZ (x:Hl):(hE x).cu=true:=rfl
theorem Xp (x:Hl):(hE x).stride=6:=rfl
theorem aaQ (x:Hl):Go.dG.Can 6 bF (hU x) (hE x):=⟨rfl,rfl,(aaN x).symm,fun i hi=>by
 show mO (hG x i) _
 rw [ajA x i (by rw [← aaN]; exact hi)]; exact .refl _⟩
theorem ae8 (x:Hl):mQ (hE x) (ah 6 bF (hU x))=True:=lZ (aaQ x)
theorem afa (x:Hl):mQ (hE x) (hE x)=True:=eq_true (.refl _)
theorem ae' {l:bD} {d:D} (h:Go.dG.Can 6 bF l d):mQ d (hE (hM l))=True:=eq_true (mP.eqv ⟨h.1,rfl,h.2.1.trans rfl,h.2.2.1.trans (by rw [aaP,Me]),fun i hi=>by
 have hl:=h.2.2.1
 have h1:=h.2.2.2 i (by omega)
 have h2:(hE (hM l)).nth i=bF (l.getD i default):=by
  show hG (hM l) i=_
  rw [ajA _ i (by rw [← aaN,Me]; omega),Me]
 rw [h2]; exact h1⟩)
theorem ae9 (s:Nat) (g:Nat→List D):mQ (.sl s 0 g) (hE .nil)=True:=eq_true (.nil _ _ _ _)
theorem aAO (s:Nat) (g:Nat→List D):hD (.sl s 0 g)= .nil:=(rfl)
theorem ajY (x:Hl):Go.dG.Can 6 bF (hU x) (hE x)=True:=eq_true (aaQ x)
theorem QH {α:Type} [Inhabited α] {s s':Nat} {f:α→List D} {l:List α} {a:α} {x:D} {c0 c:List D} (hx:Go.dG.Can s f l x) (hn:c0.length=c.length) (hc:jg c (f a)):Go.dG.Can s f (l++[a]) ((D.cat x (D.ofList s' [c0])).setAt l.length 0 c)=True:=by
 obtain ⟨h1,h2,h3,h4⟩:=hx
 refine eq_true ⟨rfl,h2,by show x.len+1=_; rw [h3]; simp,fun i hi=> ?_⟩
 have hi':i<l.length+1:=by simpa using hi
 by_cases e:i=l.length
 ·subst e
  have g1:((D.cat x (D.ofList s' [c0])).setAt l.length 0 c).nth l.length=c:=by
   show (if l.length=l.length then splice ((D.cat x (D.ofList s' [c0])).nth l.length) 0 c else _)=c
   rw [if_pos rfl]
   have:(D.cat x (D.ofList s' [c0])).nth l.length=c0:=by
    show (if l.length<x.len then _ else _)=_
    rw [if_neg (by omega),h3,Nat.sub_self]; rfl
   rw [this]; simp [splice,hn]
  rw [g1]
  have g2:(l++[a]).getD l.length default=a:=by simp [List.getD_eq_getElem?_getD]
  rw [g2]; exact iR hc
 ·have hlt:i<l.length:=by omega
  have g1:((D.cat x (D.ofList s' [c0])).setAt l.length 0 c).nth i=x.nth i:=by
   show (if i=l.length then _ else (D.cat x (D.ofList s' [c0])).nth i)=_
   rw [if_neg e]
   show (if i<x.len then x.nth i else _)=_
   rw [if_pos (by omega)]
  rw [g1]
  have g2:(l++[a]).getD i default=l.getD i default:=by simp [List.getD_eq_getElem?_getD,List.getElem?_append_left hlt]
  rw [g2]; exact h4 i hlt
attribute [go_sem] XV fV qU Me Vw I9 ajD ajC aaP aeZ Xp ae8 afa ae' ae9 aAO ajY QH
abbrev aZ:=List (Int)
def cO (x:Int):List D:=[.int .i64 x]
theorem aBg (x:Int):cO x=[.int .i64 x]:=by rw [cO]
def jQ:List D→Int
 | [.int _ a]=>a
 | _=>default
theorem aAS (x:Int):jQ (cO x)=x:=by rfl
theorem Nz (l:List (Int)):aG jQ (ah 1 cO l)=l:=bZ _ _ _ _ aAS
theorem aA1 (l:List (Int)):(ah 1 cO l).flat=True:=mg (fun _=>rfl)
attribute [go_sem] aBg jQ Nz aA1
abbrev au:=List (Int×Int)
def aO (x:Int×Int):List D:=[.int .i64 x.1,.int .i64 x.2]
theorem agM (x:Int×Int):aO x=[.int .i64 x.1,.int .i64 x.2]:=by rw [aO]
def bW:List D→Int×Int
 | [.int _ a,.int _ b]=>(a,b)
 | _=>default
theorem agK (x:Int×Int):bW (aO x)=x:=by rfl
theorem qV (l:List (Int×Int)):aG bW (ah 2 aO l)=l:=bZ _ _ _ _ agK
theorem atB (l:List (Int×Int)):(ah 2 aO l).flat=True:=mg (fun _=>rfl)
attribute [go_sem] agM bW qV atB
theorem atH (o:Option (Int×Int)):decP bW (.pt o.isSome [.int .i64 (o.getD default).1,.int .i64 (o.getD default).2])=o:=by have:=qj agK o; rwa [agM] at this
attribute [go_sem] atH
abbrev aj:=List ((List (Int×Int)))
def aN (x:au):List D:=[ah 2 aO x]
theorem afc (x:au):aN x=[ah 2 aO x]:=by rw [aN]
def bP:List D→au
 | [a]=>aG bW a
 | _=>default
theorem ae2 (x:au):bP (aN x)=x:=by simp only [bP,aN,qV]
theorem Eb (l:List (au)):aG bP (ah 1 aN l)=l:=bZ _ _ _ _ ae2
theorem afb {l:List (au)} {d:D} (h:kC 2 aO l d):qw d (ah 1 aN l)=True:=jh (fun _=>rfl) h
theorem abH (l:List (au)):kC 2 aO l (ah 1 aN l)=True:=ji (fun _=>rfl) l
attribute [go_sem] afb abH
attribute [go_sem] afc bP Eb
def og (x:aj):List D:=[ah 1 aN x]
theorem XQ (x:aj):og x=[ah 1 aN x]:=by rw [og]
def xW:List D→aj
 | [a]=>aG bP a
 | _=>default
theorem Xt (x:aj):xW (og x)=x:=by simp only [xW,og,Eb]
theorem D9 (l:List (aj)):aG xW (ah 1 og l)=l:=bZ _ _ _ _ Xt
theorem XO {l:List (aj)} {d:D} (h:kC 1 aN l d):qw d (ah 1 og l)=True:=jh (fun _=>rfl) h
theorem QD (l:List (aj)):kC 1 aN l (ah 1 og l)=True:=ji (fun _=>rfl) l
attribute [go_sem] XO QD
attribute [go_sem] XQ xW D9
def Ee (x:aZ):List D:=[ah 1 cO x]
theorem ajT (x:aZ):Ee x=[ah 1 cO x]:=by rw [Ee]
def Vz:List D→aZ
 | [a]=>aG jQ a
 | _=>default
theorem ajJ (x:aZ):Vz (Ee x)=x:=by simp only [Vz,Ee,Nz]
theorem VG (l:List (aZ)):aG Vz (ah 1 Ee l)=l:=bZ _ _ _ _ ajJ
theorem ajQ {l:List (aZ)} {d:D} (h:kC 1 cO l d):qw d (ah 1 Ee l)=True:=jh (fun _=>rfl) h
theorem afn (l:List (aZ)):kC 1 cO l (ah 1 Ee l)=True:=ji (fun _=>rfl) l
attribute [go_sem] ajQ afn
attribute [go_sem] ajT Vz VG
def kW (x:bD):List D:=[ah 6 bF x]
theorem Nw (x:bD):kW x=[ah 6 bF x]:=by rw [kW]
def qL:List D→bD
 | [a]=>aG fV a
 | _=>default
theorem MO (x:bD):qL (kW x)=x:=by simp only [qL,kW,qU]
theorem yA (l:List (bD)):aG qL (ah 1 kW l)=l:=bZ _ _ _ _ MO
theorem Nr {l:List (bD)} {d:D} (h:kC 6 bF l d):qw d (ah 1 kW l)=True:=jh (fun _=>rfl) h
theorem Jv (l:List (bD)):kC 6 bF l (ah 1 kW l)=True:=ji (fun _=>rfl) l
attribute [go_sem] Nr Jv
attribute [go_sem] Nw qL yA
def d_B (x:Bool):List D:=[.bool x]
theorem aBj (x:Bool):d_B x=[.bool x]:=by rw [d_B]
def g_B:List D→Bool
 | [.bool a]=>a
 | _=>default
theorem aAV (x:Bool):g_B (d_B x)=x:=by rfl
theorem agQ (l:List (Bool)):aG g_B (ah 1 d_B l)=l:=bZ _ _ _ _ aAV
theorem aA3 (l:List (Bool)):(ah 1 d_B l).flat=True:=mg (fun _=>rfl)
attribute [go_sem] aBj g_B agQ aA3
abbrev vC:=List (Nat×Int×Int)
def uX (x:Nat×Int×Int):List D:=[.fn x.1,.int .i64 x.2.1,.int .i64 x.2.2]
theorem ajU (x:Nat×Int×Int):uX x=[.fn x.1,.int .i64 x.2.1,.int .i64 x.2.2]:=by rw [uX]
def VA:List D→Nat×Int×Int
 | [.fn a,.int _ b,.int _ c]=>(a,b,c)
 | _=>default
theorem ajK (x:Nat×Int×Int):VA (uX x)=x:=by rfl
theorem Jp (l:List (Nat×Int×Int)):aG VA (ah 3 uX l)=l:=bZ _ _ _ _ ajK
attribute [go_sem] ajU VA Jp
def qX (x:vC):List D:=[ah 3 uX x]
theorem abr (x:vC):qX x=[ah 3 uX x]:=by rw [qX]
def Bc:List D→vC
 | [a]=>aG VA a
 | _=>default
theorem aa1 (x:vC):Bc (qX x)=x:=by simp only [Bc,qX,Jp]
theorem GH (l:List (vC)):aG Bc (ah 1 qX l)=l:=bZ _ _ _ _ aa1
theorem abn {l:List (vC)} {d:D} (h:kC 3 uX l d):qw d (ah 1 qX l)=True:=jh (fun _=>rfl) h
theorem X5 (l:List (vC)):kC 3 uX l (ah 1 qX l)=True:=ji (fun _=>rfl) l
attribute [go_sem] abn X5
attribute [go_sem] abr Bc GH
def d_H (x:Hl):List D:=[hE x]
theorem aBh (x:Hl):d_H x=[hE x]:=by rw [d_H]
def g_H:List D→Hl
 | [a]=>hD a
 | _=>default
theorem aAT (x:Hl):g_H (d_H x)=x:=by simp only [g_H,d_H,ajD]
theorem agO (l:List (Hl)):aG g_H (ah 1 d_H l)=l:=bZ _ _ _ _ aAT
attribute [go_sem] aBh g_H agO
abbrev bg:=List (Int×Int×Int×Int)
def cZ (x:Int×Int×Int×Int):List D:=[.int .i64 x.1,.int .i64 x.2.1,.int .i64 x.2.2.1,.int .i64 x.2.2.2]
theorem VE (x:Int×Int×Int×Int):cZ x=[.int .i64 x.1,.int .i64 x.2.1,.int .i64 x.2.2.1,.int .i64 x.2.2.2]:=by rw [cZ]
def jF:List D→Int×Int×Int×Int
 | [.int _ a,.int _ b,.int _ c,.int _ d]=>(a,b,c,d)
 | _=>default
theorem Vx (x:Int×Int×Int×Int):jF (cZ x)=x:=by rfl
theorem Ec (l:List (Int×Int×Int×Int)):aG jF (ah 4 cZ l)=l:=bZ _ _ _ _ Vx
theorem ae3 (l:List (Int×Int×Int×Int)):(ah 4 cZ l).flat=True:=mg (fun _=>rfl)
attribute [go_sem] VE jF Ec ae3
theorem afd (o:Option (Int×Int×Int×Int)):decP jF (.pt o.isSome [.int .i64 (o.getD default).1,.int .i64 (o.getD default).2.1,.int .i64 (o.getD default).2.2.1,.int .i64 (o.getD default).2.2.2])=o:=by have:=qj Vx o; rwa [VE] at this
attribute [go_sem] afd
def oh (x:bg):List D:=[ah 4 cZ x]
theorem XR (x:bg):oh x=[ah 4 cZ x]:=by rw [oh]
def xX:List D→bg
 | [a]=>aG jF a
 | _=>default
theorem Xu (x:bg):xX (oh x)=x:=by simp only [xX,oh,Ec]
theorem Ea (l:List (bg)):aG xX (ah 1 oh l)=l:=bZ _ _ _ _ Xu
theorem XP {l:List (bg)} {d:D} (h:kC 4 cZ l d):qw d (ah 1 oh l)=True:=jh (fun _=>rfl) h
theorem QE (l:List (bg)):kC 4 cZ l (ah 1 oh l)=True:=ji (fun _=>rfl) l
attribute [go_sem] XP QE
attribute [go_sem] XR xX Ea
abbrev aW:=List (Int×Int×Int×Int×Int)
def bU (x:Int×Int×Int×Int×Int):List D:=[.int .i64 x.1,.int .i64 x.2.1,.int .i64 x.2.2.1,.int .i64 x.2.2.2.1,.int .i64 x.2.2.2.2]
theorem Ny (x:Int×Int×Int×Int×Int):bU x=[.int .i64 x.1,.int .i64 x.2.1,.int .i64 x.2.2.1,.int .i64 x.2.2.2.1,.int .i64 x.2.2.2.2]:=by rw [bU]
def gZ:List D→Int×Int×Int×Int×Int
 | [.int _ a,.int _ b,.int _ c,.int _ d,.int _ e]=>(a,b,c,d,e)
 | _=>default
theorem MP (x:Int×Int×Int×Int×Int):gZ (bU x)=x:=by rfl
theorem zl (l:List (Int×Int×Int×Int×Int)):aG gZ (ah 5 bU l)=l:=bZ _ _ _ _ MP
theorem aa3 (l:List (Int×Int×Int×Int×Int)):(ah 5 bU l).flat=True:=mg (fun _=>rfl)
attribute [go_sem] Ny gZ zl aa3
theorem abu (o:Option (Int×Int×Int×Int×Int)):decP gZ (.pt o.isSome [.int .i64 (o.getD default).1,.int .i64 (o.getD default).2.1,.int .i64 (o.getD default).2.2.1,.int .i64 (o.getD default).2.2.2.1,.int .i64 (o.getD default).2.2.2.2])=o:=by have:=qj MP o; rwa [Ny] at this
attribute [go_sem] abu
def lV (x:aW):List D:=[ah 5 bU x]
theorem Qx (x:aW):lV x=[ah 5 bU x]:=by rw [lV]
def uo:List D→aW
 | [a]=>aG gZ a
 | _=>default
theorem Qc (x:aW):uo (lV x)=x:=by simp only [uo,lV,zl]
theorem Ai (l:List (aW)):aG uo (ah 1 lV l)=l:=bZ _ _ _ _ Qc
theorem Qv {l:List (aW)} {d:D} (h:kC 5 bU l d):qw d (ah 1 lV l)=True:=jh (fun _=>rfl) h
theorem NG (l:List (aW)):kC 5 bU l (ah 1 lV l)=True:=ji (fun _=>rfl) l
attribute [go_sem] Qv NG
attribute [go_sem] Qx uo Ai
abbrev bf:=List (Int×Int×Int)
def dn (x:Int×Int×Int):List D:=[.int .i64 x.1,.int .i64 x.2.1,.int .i64 x.2.2]
theorem abt (x:Int×Int×Int):dn x=[.int .i64 x.1,.int .i64 x.2.1,.int .i64 x.2.2]:=by rw [dn]
def jG:List D→Int×Int×Int
 | [.int _ a,.int _ b,.int _ c]=>(a,b,c)
 | _=>default
theorem aa2 (x:Int×Int×Int):jG (dn x)=x:=by rfl
theorem Jo (l:List (Int×Int×Int)):aG jG (ah 3 dn l)=l:=bZ _ _ _ _ aa2
theorem ajL (l:List (Int×Int×Int)):(ah 3 dn l).flat=True:=mg (fun _=>rfl)
attribute [go_sem] abt jG Jo ajL
theorem ajV (o:Option (Int×Int×Int)):decP jG (.pt o.isSome [.int .i64 (o.getD default).1,.int .i64 (o.getD default).2.1,.int .i64 (o.getD default).2.2])=o:=by have:=qj aa2 o; rwa [abt] at this
attribute [go_sem] ajV
def qW (x:bf):List D:=[ah 3 dn x]
theorem abq (x:bf):qW x=[ah 3 dn x]:=by rw [qW]
def Ba:List D→bf
 | [a]=>aG jG a
 | _=>default
theorem aa0 (x:bf):Ba (qW x)=x:=by simp only [Ba,qW,Jo]
theorem Gz (l:List (bf)):aG Ba (ah 1 qW l)=l:=bZ _ _ _ _ aa0
theorem abm {l:List (bf)} {d:D} (h:kC 3 dn l d):qw d (ah 1 qW l)=True:=jh (fun _=>rfl) h
theorem X4 (l:List (bf)):kC 3 dn l (ah 1 qW l)=True:=ji (fun _=>rfl) l
attribute [go_sem] abm X4
attribute [go_sem] abq Ba Gz
abbrev bG:=List (Int×(List (Int×Int))×Int)
def bI (x:Int×au×Int):List D:=[.int .i64 x.1,ah 2 aO x.2.1,.int .i64 x.2.2]
theorem Gy (x:Int×au×Int):bI x=[.int .i64 x.1,ah 2 aO x.2.1,.int .i64 x.2.2]:=by rw [bI]
def nX:List D→Int×au×Int
 | [.int _ a,b,.int _ c]=>(a,aG bW b,c)
 | _=>default
theorem Gl (x:Int×au×Int):nX (bI x)=x:=by simp only [nX,bI,qV]
theorem wo (l:List (Int×au×Int)):aG nX (ah 3 bI l)=l:=bZ _ _ _ _ Gl
attribute [go_sem] Gy nX wo
theorem XW (o:Option (Int×au×Int)):decP nX (.pt o.isSome [.int .i64 (o.getD default).1,ah 2 aO (o.getD default).2.1,.int .i64 (o.getD default).2.2])=o:=by have:=qj Gl o; rwa [Gy] at this
attribute [go_sem] XW
def kV (x:bG):List D:=[ah 3 bI x]
theorem Nv (x:bG):kV x=[ah 3 bI x]:=by rw [kV]
def qK:List D→bG
 | [a]=>aG nX a
 | _=>default
theorem MN (x:bG):qK (kV x)=x:=by simp only [qK,kV,wo]
theorem yx (l:List (bG)):aG qK (ah 1 kV l)=l:=bZ _ _ _ _ MN
theorem Nq {l:List (bG)} {d:D} (h:kC 3 bI l d):qw d (ah 1 kV l)=True:=jh (fun _=>rfl) h
theorem Ju (l:List (bG)):kC 3 bI l (ah 1 kV l)=True:=ji (fun _=>rfl) l
attribute [go_sem] Nq Ju
attribute [go_sem] Nv qK yx
abbrev bY:=List ((List (Int×Int))×Int×Int)
def dU (x:au×Int×Int):List D:=[ah 2 aO x.1,.int .i64 x.2.1,.int .i64 x.2.2]
theorem XT (x:au×Int×Int):dU x=[ah 2 aO x.1,.int .i64 x.2.1,.int .i64 x.2.2]:=by rw [dU]
def jX:List D→au×Int×Int
 | [a,.int _ b,.int _ c]=>(aG bW a,b,c)
 | _=>default
theorem Xv (x:au×Int×Int):jX (dU x)=x:=by simp only [jX,dU,qV]
theorem vY (l:List (au×Int×Int)):aG jX (ah 3 dU l)=l:=bZ _ _ _ _ Xv
attribute [go_sem] XT jX vY
def kS (x:bY):List D:=[ah 3 dU x]
theorem Ns (x:bY):kS x=[ah 3 dU x]:=by rw [kS]
def qI:List D→bY
 | [a]=>aG jX a
 | _=>default
theorem MK (x:bY):qI (kS x)=x:=by simp only [qI,kS,vY]
theorem yj (l:List (bY)):aG qI (ah 1 kS l)=l:=bZ _ _ _ _ MK
theorem Nl {l:List (bY)} {d:D} (h:kC 3 dU l d):qw d (ah 1 kS l)=True:=jh (fun _=>rfl) h
theorem Js (l:List (bY)):kC 3 dU l (ah 1 kS l)=True:=ji (fun _=>rfl) l
attribute [go_sem] Nl Js
attribute [go_sem] Ns qI yj
abbrev gJ:=List ((List (Int))×(List (Int)))
def iH (x:aZ×aZ):List D:=[ah 1 cO x.1,ah 1 cO x.2]
theorem XU (x:aZ×aZ):iH x=[ah 1 cO x.1,ah 1 cO x.2]:=by rw [iH]
def tu:List D→aZ×aZ
 | [a,b]=>(aG jQ a,aG jQ b)
 | _=>default
theorem Xw (x:aZ×aZ):tu (iH x)=x:=by simp only [tu,iH,Nz,Nz]
theorem vZ (l:List (aZ×aZ)):aG tu (ah 2 iH l)=l:=bZ _ _ _ _ Xw
attribute [go_sem] XU tu vZ
def kT (x:gJ):List D:=[ah 2 iH x]
theorem Nu (x:gJ):kT x=[ah 2 iH x]:=by rw [kT]
def qJ:List D→gJ
 | [a]=>aG tu a
 | _=>default
theorem ML (x:gJ):qJ (kT x)=x:=by simp only [qJ,kT,vZ]
theorem yw (l:List (gJ)):aG qJ (ah 1 kT l)=l:=bZ _ _ _ _ ML
theorem Np {l:List (gJ)} {d:D} (h:kC 2 iH l d):qw d (ah 1 kT l)=True:=jh (fun _=>rfl) h
theorem Jt (l:List (gJ)):kC 2 iH l (ah 1 kT l)=True:=ji (fun _=>rfl) l
attribute [go_sem] Np Jt
attribute [go_sem] Nu qJ yw
abbrev L_S:=List (ByteArray)
def d_S (x:ByteArray):List D:=[.str x]
theorem aBf (x:ByteArray):d_S x=[.str x]:=by rw [d_S]
def g_S:List D→ByteArray
 | [.str a]=>a
 | _=>default
theorem aAR (x:ByteArray):g_S (d_S x)=x:=by rfl
theorem abv (l:List (ByteArray)):aG g_S (ah 1 d_S l)=l:=bZ _ _ _ _ aAR
theorem aA0 (l:List (ByteArray)):(ah 1 d_S l).flat=True:=mg (fun _=>rfl)
attribute [go_sem] aBf g_S abv aA0
def d_E (x:Bool):List D:=[.err x]
theorem aBi (x:Bool):d_E x=[.err x]:=by rw [d_E]
def g_E:List D→Bool
 | [.err a]=>a
 | _=>default
theorem aAU (x:Bool):g_E (d_E x)=x:=by rfl
theorem agP (l:List (Bool)):aG g_E (ah 1 d_E l)=l:=bZ _ _ _ _ aAU
theorem aA2 (l:List (Bool)):(ah 1 d_E l).flat=True:=mg (fun _=>rfl)
attribute [go_sem] aBi g_E agP aA2
def Ed (x:L_S):List D:=[ah 1 d_S x]
theorem ajS (x:L_S):Ed x=[ah 1 d_S x]:=by rw [Ed]
def Vy:List D→L_S
 | [a]=>aG g_S a
 | _=>default
theorem ajI (x:L_S):Vy (Ed x)=x:=by simp only [Vy,Ed,abv]
theorem VF (l:List (L_S)):aG Vy (ah 1 Ed l)=l:=bZ _ _ _ _ ajI
theorem ajP {l:List (L_S)} {d:D} (h:kC 1 d_S l d):qw d (ah 1 Ed l)=True:=jh (fun _=>rfl) h
theorem afm (l:List (L_S)):kC 1 d_S l (ah 1 Ed l)=True:=ji (fun _=>rfl) l
attribute [go_sem] ajP afm
attribute [go_sem] ajS Vy VF
attribute [go_sem] vX Option.isSome_none
theorem w0:(IntKind.i64.wrap (0+1))=1:=by first | rfl | decide | simp
theorem w1:(decide ((0:Int)>0))=false:=by first | rfl | decide | simp
theorem w2:(decide ((1:Int)≤60))=true:=by first | rfl | decide | simp
theorem w3:((((0:Int)) == 0))=true:=by first | rfl | decide | simp
theorem w4:((((0:Int)) != 0))=false:=by first | rfl | decide | simp
theorem w5:((((0:Int)) == 200))=false:=by first | rfl | decide | simp
theorem w6:(IntKind.i64.wrap (0+2))=2:=by first | rfl | decide | simp
theorem w7:(IntKind.i64.wrap (1+1))=2:=by first | rfl | decide | simp
theorem w8:(IntKind.i64.wrap (1+2))=3:=by first | rfl | decide | simp
theorem w9:((((8:Int)) != 0))=true:=by first | rfl | decide | simp
theorem w10:(decide ((0:Int)<4))=true:=by first | rfl | decide | simp
theorem w11:(decide ((1:Int)<4))=true:=by first | rfl | decide | simp
theorem w12:(((1:Int)=0∨(0:Int)<1))=True:=by first | rfl | decide | simp
theorem w13:(decide ((2:Int)<4))=true:=by first | rfl | decide | simp
theorem w14:(((2:Int)=0∨(0:Int)<2))=True:=by first | rfl | decide | simp
theorem w15:(IntKind.i64.wrap (2+1))=3:=by first | rfl | decide | simp
theorem w16:(decide ((3:Int)<4))=true:=by first | rfl | decide | simp
theorem w17:(((3:Int)=0∨(0:Int)<3))=True:=by first | rfl | decide | simp
theorem w18:(IntKind.i64.wrap (3+1))=4:=by first | rfl | decide | simp
theorem w19:(decide ((4:Int)<4))=false:=by first | rfl | decide | simp
theorem w20:(decide ((0:Int)≥0))=true:=by first | rfl | decide | simp
theorem w21:(decide ((-1:Int)≥0))=false:=by first | rfl | decide | simp
theorem w22:(((3:Nat):Int))=3:=by first | rfl | decide | simp
theorem w23:(decide ((0:Int)<3))=true:=by first | rfl | decide | simp
theorem w24:(decide ((1:Int)<3))=true:=by first | rfl | decide | simp
theorem w25:(decide ((2:Int)<3))=true:=by first | rfl | decide | simp
theorem w26:(decide ((3:Int)<3))=false:=by first | rfl | decide | simp
theorem w27:(decide ((0:Int)<7))=true:=by first | rfl | decide | simp
theorem w28:(decide ((1:Int)<7))=true:=by first | rfl | decide | simp
theorem w29:(decide ((2:Int)<7))=true:=by first | rfl | decide | simp
theorem w30:(decide ((3:Int)<7))=true:=by first | rfl | decide | simp
theorem w31:(decide ((4:Int)<7))=true:=by first | rfl | decide | simp
theorem w32:(((4:Int)=0∨(0:Int)<4))=True:=by first | rfl | decide | simp
theorem w33:(IntKind.i64.wrap (4+1))=5:=by first | rfl | decide | simp
theorem w34:(decide ((5:Int)<7))=true:=by first | rfl | decide | simp
theorem w35:(((5:Int)=0∨(0:Int)<5))=True:=by first | rfl | decide | simp
theorem w36:(IntKind.i64.wrap (5+1))=6:=by first | rfl | decide | simp
theorem w37:(decide ((6:Int)<7))=true:=by first | rfl | decide | simp
theorem w38:(((6:Int)=0∨(0:Int)<6))=True:=by first | rfl | decide | simp
theorem w39:(IntKind.i64.wrap (6+1))=7:=by first | rfl | decide | simp
theorem w40:(decide ((7:Int)<7))=false:=by first | rfl | decide | simp
theorem w41:(decide ((0:Int)<201))=true:=by first | rfl | decide | simp
theorem w42:(((#[117,110,116,105,108,32,54,53,48,32,52,48,48,32,53,59,113,117,101,110,99,104,32,49,32,51]:Array UInt8).size:Int))=26:=by first | rfl | decide | simp
theorem w43:(decide ((26:Int)>2000))=false:=by first | rfl | decide | simp
theorem w44:(decide ((5:Int)<0))=false:=by first | rfl | decide | simp
theorem w45:((⟨#[117,110,116,105,108,32,54,53,48,32,52,48,48,32,53,59,113,117,101,110,99,104,32,49,32,51]⟩:ByteArray).extract 0 5)=(⟨#[117,110,116,105,108]⟩:ByteArray):=by first | rfl | decide | simp
theorem w46:((⟨#[117,110,116,105,108,32,54,53,48,32,52,48,48,32,53,59,113,117,101,110,99,104,32,49,32,51]⟩:ByteArray).extract 5 26)=(⟨#[32,54,53,48,32,52,48,48,32,53,59,113,117,101,110,99,104,32,49,32,51]⟩:ByteArray):=by first | rfl | decide | simp
theorem w47:(decide ((0:Int)<6))=true:=by first | rfl | decide | simp
theorem w48:(decide ((⟨#[117,110,116,105,108]⟩:ByteArray)=(⟨#[104,101,97,116]⟩:ByteArray)))=false:=by first | rfl | decide | simp
theorem w49:(decide ((1:Int)<6))=true:=by first | rfl | decide | simp
theorem w50:(decide ((⟨#[117,110,116,105,108]⟩:ByteArray)=(⟨#[100,119,101,108,108]⟩:ByteArray)))=false:=by first | rfl | decide | simp
theorem w51:(decide ((2:Int)<6))=true:=by first | rfl | decide | simp
theorem w52:(decide ((⟨#[117,110,116,105,108]⟩:ByteArray)=(⟨#[113,117,101,110,99,104]⟩:ByteArray)))=false:=by first | rfl | decide | simp
theorem w53:(decide ((3:Int)<6))=true:=by first | rfl | decide | simp
theorem w54:(decide ((⟨#[117,110,116,105,108]⟩:ByteArray)=(⟨#[117,110,116,105,108]⟩:ByteArray)))=true:=by first | rfl | decide | simp
theorem w55:(decide ((3:Int)<0))=false:=by first | rfl | decide | simp
theorem w56:(((#[54,53,48,32,52,48,48,32,53,59,113,117,101,110,99,104,32,49,32,51]:Array UInt8).size:Int))=20:=by first | rfl | decide | simp
theorem w57:((⟨#[54,53,48,32,52,48,48,32,53,59,113,117,101,110,99,104,32,49,32,51]⟩:ByteArray).extract 0 3)=(⟨#[54,53,48]⟩:ByteArray):=by first | rfl | decide | simp
theorem w58:((⟨#[54,53,48,32,52,48,48,32,53,59,113,117,101,110,99,104,32,49,32,51]⟩:ByteArray).extract 3 20)=(⟨#[32,52,48,48,32,53,59,113,117,101,110,99,104,32,49,32,51]⟩:ByteArray):=by first | rfl | decide | simp
theorem w59:(((#[52,48,48,32,53,59,113,117,101,110,99,104,32,49,32,51]:Array UInt8).size:Int))=16:=by first | rfl | decide | simp
theorem w60:((⟨#[52,48,48,32,53,59,113,117,101,110,99,104,32,49,32,51]⟩:ByteArray).extract 0 3)=(⟨#[52,48,48]⟩:ByteArray):=by first | rfl | decide | simp
theorem w61:((⟨#[52,48,48,32,53,59,113,117,101,110,99,104,32,49,32,51]⟩:ByteArray).extract 3 16)=(⟨#[32,53,59,113,117,101,110,99,104,32,49,32,51]⟩:ByteArray):=by first | rfl | decide | simp
theorem w62:(decide ((1:Int)<0))=false:=by first | rfl | decide | simp
theorem w63:(((#[53,59,113,117,101,110,99,104,32,49,32,51]:Array UInt8).size:Int))=12:=by first | rfl | decide | simp
theorem w64:((⟨#[53,59,113,117,101,110,99,104,32,49,32,51]⟩:ByteArray).extract 0 1)=(⟨#[53]⟩:ByteArray):=by first | rfl | decide | simp
theorem w65:((⟨#[53,59,113,117,101,110,99,104,32,49,32,51]⟩:ByteArray).extract 1 12)=(⟨#[59,113,117,101,110,99,104,32,49,32,51]⟩:ByteArray):=by first | rfl | decide | simp
theorem w66:((((3:Int)) != 5))=true:=by first | rfl | decide | simp
theorem w67:(decide ((6:Int)<0))=false:=by first | rfl | decide | simp
theorem w68:(((#[113,117,101,110,99,104,32,49,32,51]:Array UInt8).size:Int))=10:=by first | rfl | decide | simp
theorem w69:((⟨#[113,117,101,110,99,104,32,49,32,51]⟩:ByteArray).extract 0 6)=(⟨#[113,117,101,110,99,104]⟩:ByteArray):=by first | rfl | decide | simp
theorem w70:((⟨#[113,117,101,110,99,104,32,49,32,51]⟩:ByteArray).extract 6 10)=(⟨#[32,49,32,51]⟩:ByteArray):=by first | rfl | decide | simp
theorem w71:(decide ((⟨#[113,117,101,110,99,104]⟩:ByteArray)=(⟨#[104,101,97,116]⟩:ByteArray)))=false:=by first | rfl | decide | simp
theorem w72:(decide ((⟨#[113,117,101,110,99,104]⟩:ByteArray)=(⟨#[100,119,101,108,108]⟩:ByteArray)))=false:=by first | rfl | decide | simp
theorem w73:(decide ((⟨#[113,117,101,110,99,104]⟩:ByteArray)=(⟨#[113,117,101,110,99,104]⟩:ByteArray)))=true:=by first | rfl | decide | simp
theorem w74:(((2:Nat):Int))=2:=by first | rfl | decide | simp
theorem w75:(decide ((0:Int)<2))=true:=by first | rfl | decide | simp
theorem w76:(((#[49,32,51]:Array UInt8).size:Int))=3:=by first | rfl | decide | simp
theorem w77:((⟨#[49,32,51]⟩:ByteArray).extract 0 1)=(⟨#[49]⟩:ByteArray):=by first | rfl | decide | simp
theorem w78:((⟨#[49,32,51]⟩:ByteArray).extract 1 3)=(⟨#[32,51]⟩:ByteArray):=by first | rfl | decide | simp
theorem w79:(decide ((1:Int)<2))=true:=by first | rfl | decide | simp
theorem w80:(decide ((-1:Int)<0))=true:=by first | rfl | decide | simp
theorem w81:(((#[51]:Array UInt8).size:Int))=1:=by first | rfl | decide | simp
theorem w82:((⟨#[51]⟩:ByteArray).extract 0 1)=(⟨#[51]⟩:ByteArray):=by first | rfl | decide | simp
theorem w83:((⟨#[51]⟩:ByteArray).extract 1 1)=(⟨#[]⟩:ByteArray):=by first | rfl | decide | simp
theorem w84:(decide ((2:Int)<2))=false:=by first | rfl | decide | simp
theorem w85:((((2:Int)) != 5))=true:=by first | rfl | decide | simp
theorem w86:(decide ((⟨#[]⟩:ByteArray)=(⟨#[]⟩:ByteArray)))=true:=by first | rfl | decide | simp
theorem w87:(IntKind.i64.wrap (1 - 1))=0:=by first | rfl | decide | simp
attribute [go_sem] w0 w1 w2 w3 w4 w5 w6 w7 w8 w9 w10 w11 w12 w13 w14 w15 w16 w17 w18 w19 w20 w21 w22 w23 w24 w25 w26 w27 w28 w29 w30 w31 w32 w33 w34 w35 w36 w37 w38 w39 w40 w41 w42 w43 w44 w45 w46 w47 w48 w49 w50 w51 w52 w53 w54 w55 w56 w57 w58 w59 w60 w61 w62 w63 w64 w65 w66 w67 w68 w69 w70 w71 w72 w73 w74 w75 w76 w77 w78 w79 w80 w81 w82 w83 w84 w85 w86 w87
section
variable {γ a0 a1 a2 a3 a4 a5 a6 a7 a8 a9 a10 a11 a12 jP kN kM a16 a17 ni pF a20 a21 a22 a23 a24 a25 a26 a27 a28 a29:Type} (x:Unit) (x0:a0) (x1:a1) (x2:a2) (x3:a3) (x4:a4) (x5:a5) (x6:a6) (x7:a7) (x8:a8) (x9:a9) (x10:a10) (x11:a11) (x12:a12) (dO:jP) (x14:kN) (x15:kM) (x16:a16) (x17:a17) (x18:ni) (x19:pF) (x20:a20) (x21:a21) (rW:a22) (x23:a23) (x24:a24) (x25:a25) (Fj:a26) (x27:a27) (x28:a28) (x29:a29)
def u0 (f:γ):Unit→γ:=fun _=>f
theorem uq0 (f:γ):u0 f x=f:=(rfl)
def u1 (f:a0→γ):a0→γ:=f
theorem rF (f:a0→γ):u1 f x0=f x0:=(rfl)
def u2 (f:a0→a1→γ):a0×a1→γ:=fun (x0,x1)=>f x0 x1
theorem yK (f:a0→a1→γ):u2 f (x0,x1)=f x0 x1:=(rfl)
def u3 (f:a0→a1→a2→γ):a0×a1×a2→γ:=fun (x0,x1,x2)=>f x0 x1 x2
theorem Yq (f:a0→a1→a2→γ):u3 f (x0,x1,x2)=f x0 x1 x2:=(rfl)
def u4 (f:a0→a1→a2→a3→γ):a0×a1×a2×a3→γ:=fun (x0,x1,x2,x3)=>f x0 x1 x2 x3
theorem uq4 (f:a0→a1→a2→a3→γ):u4 f (x0,x1,x2,x3)=f x0 x1 x2 x3:=(rfl)
def u5 (f:a0→a1→a2→a3→a4→γ):a0×a1×a2×a3×a4→γ:=fun (x0,x1,x2,x3,x4)=>f x0 x1 x2 x3 x4
theorem uq5 (f:a0→a1→a2→a3→a4→γ):u5 f (x0,x1,x2,x3,x4)=f x0 x1 x2 x3 x4:=(rfl)
def u6 (f:a0→a1→a2→a3→a4→a5→γ):a0×a1×a2×a3×a4×a5→γ:=fun (x0,x1,x2,x3,x4,x5)=>f x0 x1 x2 x3 x4 x5
theorem YA (f:a0→a1→a2→a3→a4→a5→γ):u6 f (x0,x1,x2,x3,x4,x5)=f x0 x1 x2 x3 x4 x5:=(rfl)
def u7 (f:a0→a1→a2→a3→a4→a5→a6→γ):a0×a1×a2×a3×a4×a5×a6→γ:=fun (x0,x1,x2,x3,x4,x5,x6)=>f x0 x1 x2 x3 x4 x5 x6
theorem JW (f:a0→a1→a2→a3→a4→a5→a6→γ):u7 f (x0,x1,x2,x3,x4,x5,x6)=f x0 x1 x2 x3 x4 x5 x6:=(rfl)
def u8 (f:a0→a1→a2→a3→a4→a5→a6→a7→γ):a0×a1×a2×a3×a4×a5×a6×a7→γ:=fun (x0,x1,x2,x3,x4,x5,x6,x7)=>f x0 x1 x2 x3 x4 x5 x6 x7
theorem uq8 (f:a0→a1→a2→a3→a4→a5→a6→a7→γ):u8 f (x0,x1,x2,x3,x4,x5,x6,x7)=f x0 x1 x2 x3 x4 x5 x6 x7:=(rfl)
def u9 (f:a0→a1→a2→a3→a4→a5→a6→a7→a8→γ):a0×a1×a2×a3×a4×a5×a6×a7×a8→γ:=fun (x0,x1,x2,x3,x4,x5,x6,x7,x8)=>f x0 x1 x2 x3 x4 x5 x6 x7 x8
theorem Oa (f:a0→a1→a2→a3→a4→a5→a6→a7→a8→γ):u9 f (x0,x1,x2,x3,x4,x5,x6,x7,x8)=f x0 x1 x2 x3 x4 x5 x6 x7 x8:=(rfl)
def u10 (f:a0→a1→a2→a3→a4→a5→a6→a7→a8→a9→γ):a0×a1×a2×a3×a4×a5×a6×a7×a8×a9→γ:=fun (x0,x1,x2,x3,x4,x5,x6,x7,x8,x9)=>f x0 x1 x2 x3 x4 x5 x6 x7 x8 x9
theorem HY (f:a0→a1→a2→a3→a4→a5→a6→a7→a8→a9→γ):u10 f (x0,x1,x2,x3,x4,x5,x6,x7,x8,x9)=f x0 x1 x2 x3 x4 x5 x6 x7 x8 x9:=(rfl)
def u11 (f:a0→a1→a2→a3→a4→a5→a6→a7→a8→a9→a10→γ):a0×a1×a2×a3×a4×a5×a6×a7×a8×a9×a10→γ:=fun (x0,x1,x2,x3,x4,x5,x6,x7,x8,x9,x10)=>f x0 x1 x2 x3 x4 x5 x6 x7 x8 x9 x10
theorem acX (f:a0→a1→a2→a3→a4→a5→a6→a7→a8→a9→a10→γ):u11 f (x0,x1,x2,x3,x4,x5,x6,x7,x8,x9,x10)=f x0 x1 x2 x3 x4 x5 x6 x7 x8 x9 x10:=(rfl)
def u12 (f:a0→a1→a2→a3→a4→a5→a6→a7→a8→a9→a10→a11→γ):a0×a1×a2×a3×a4×a5×a6×a7×a8×a9×a10×a11→γ:=fun (x0,x1,x2,x3,x4,x5,x6,x7,x8,x9,x10,x11)=>f x0 x1 x2 x3 x4 x5 x6 x7 x8 x9 x10 x11
theorem ali (f:a0→a1→a2→a3→a4→a5→a6→a7→a8→a9→a10→a11→γ):u12 f (x0,x1,x2,x3,x4,x5,x6,x7,x8,x9,x10,x11)=f x0 x1 x2 x3 x4 x5 x6 x7 x8 x9 x10 x11:=(rfl)
def u13 (f:a0→a1→a2→a3→a4→a5→a6→a7→a8→a9→a10→a11→a12→γ):a0×a1×a2×a3×a4×a5×a6×a7×a8×a9×a10×a11×a12→γ:=fun (x0,x1,x2,x3,x4,x5,x6,x7,x8,x9,x10,x11,x12)=>f x0 x1 x2 x3 x4 x5 x6 x7 x8 x9 x10 x11 x12
theorem ahh (f:a0→a1→a2→a3→a4→a5→a6→a7→a8→a9→a10→a11→a12→γ):u13 f (x0,x1,x2,x3,x4,x5,x6,x7,x8,x9,x10,x11,x12)=f x0 x1 x2 x3 x4 x5 x6 x7 x8 x9 x10 x11 x12:=(rfl)
def u14 (f:a0→a1→a2→a3→a4→a5→a6→a7→a8→a9→a10→a11→a12→jP→γ):a0×a1×a2×a3×a4×a5×a6×a7×a8×a9×a10×a11×a12×jP→γ:=fun (x0,x1,x2,x3,x4,x5,x6,x7,x8,x9,x10,x11,x12,dO)=>f x0 x1 x2 x3 x4 x5 x6 x7 x8 x9 x10 x11 x12 dO
theorem ahg (f:a0→a1→a2→a3→a4→a5→a6→a7→a8→a9→a10→a11→a12→jP→γ):u14 f (x0,x1,x2,x3,x4,x5,x6,x7,x8,x9,x10,x11,x12,dO)=f x0 x1 x2 x3 x4 x5 x6 x7 x8 x9 x10 x11 x12 dO:=(rfl)
def u16 (f:a0→a1→a2→a3→a4→a5→a6→a7→a8→a9→a10→a11→a12→jP→kN→kM→γ):a0×a1×a2×a3×a4×a5×a6×a7×a8×a9×a10×a11×a12×jP×kN×kM→γ:=fun (x0,x1,x2,x3,x4,x5,x6,x7,x8,x9,x10,x11,x12,dO,x14,x15)=>f x0 x1 x2 x3 x4 x5 x6 x7 x8 x9 x10 x11 x12 dO x14 x15
theorem alh (f:a0→a1→a2→a3→a4→a5→a6→a7→a8→a9→a10→a11→a12→jP→kN→kM→γ):u16 f (x0,x1,x2,x3,x4,x5,x6,x7,x8,x9,x10,x11,x12,dO,x14,x15)=f x0 x1 x2 x3 x4 x5 x6 x7 x8 x9 x10 x11 x12 dO x14 x15:=(rfl)
def u17 (f:a0→a1→a2→a3→a4→a5→a6→a7→a8→a9→a10→a11→a12→jP→kN→kM→a16→γ):a0×a1×a2×a3×a4×a5×a6×a7×a8×a9×a10×a11×a12×jP×kN×kM×a16→γ:=fun (x0,x1,x2,x3,x4,x5,x6,x7,x8,x9,x10,x11,x12,dO,x14,x15,x16)=>f x0 x1 x2 x3 x4 x5 x6 x7 x8 x9 x10 x11 x12 dO x14 x15 x16
theorem alg (f:a0→a1→a2→a3→a4→a5→a6→a7→a8→a9→a10→a11→a12→jP→kN→kM→a16→γ):u17 f (x0,x1,x2,x3,x4,x5,x6,x7,x8,x9,x10,x11,x12,dO,x14,x15,x16)=f x0 x1 x2 x3 x4 x5 x6 x7 x8 x9 x10 x11 x12 dO x14 x15 x16:=(rfl)
def u18 (f:a0→a1→a2→a3→a4→a5→a6→a7→a8→a9→a10→a11→a12→jP→kN→kM→a16→a17→γ):a0×a1×a2×a3×a4×a5×a6×a7×a8×a9×a10×a11×a12×jP×kN×kM×a16×a17→γ:=fun (x0,x1,x2,x3,x4,x5,x6,x7,x8,x9,x10,x11,x12,dO,x14,x15,x16,x17)=>f x0 x1 x2 x3 x4 x5 x6 x7 x8 x9 x10 x11 x12 dO x14 x15 x16 x17
theorem alf (f:a0→a1→a2→a3→a4→a5→a6→a7→a8→a9→a10→a11→a12→jP→kN→kM→a16→a17→γ):u18 f (x0,x1,x2,x3,x4,x5,x6,x7,x8,x9,x10,x11,x12,dO,x14,x15,x16,x17)=f x0 x1 x2 x3 x4 x5 x6 x7 x8 x9 x10 x11 x12 dO x14 x15 x16 x17:=(rfl)
def u19 (f:a0→a1→a2→a3→a4→a5→a6→a7→a8→a9→a10→a11→a12→jP→kN→kM→a16→a17→ni→γ):a0×a1×a2×a3×a4×a5×a6×a7×a8×a9×a10×a11×a12×jP×kN×kM×a16×a17×ni→γ:=fun (x0,x1,x2,x3,x4,x5,x6,x7,x8,x9,x10,x11,x12,dO,x14,x15,x16,x17,x18)=>f x0 x1 x2 x3 x4 x5 x6 x7 x8 x9 x10 x11 x12 dO x14 x15 x16 x17 x18
theorem acW (f:a0→a1→a2→a3→a4→a5→a6→a7→a8→a9→a10→a11→a12→jP→kN→kM→a16→a17→ni→γ):u19 f (x0,x1,x2,x3,x4,x5,x6,x7,x8,x9,x10,x11,x12,dO,x14,x15,x16,x17,x18)=f x0 x1 x2 x3 x4 x5 x6 x7 x8 x9 x10 x11 x12 dO x14 x15 x16 x17 x18:=(rfl)
def u20 (f:a0→a1→a2→a3→a4→a5→a6→a7→a8→a9→a10→a11→a12→jP→kN→kM→a16→a17→ni→pF→γ):a0×a1×a2×a3×a4×a5×a6×a7×a8×a9×a10×a11×a12×jP×kN×kM×a16×a17×ni×pF→γ:=fun (x0,x1,x2,x3,x4,x5,x6,x7,x8,x9,x10,x11,x12,dO,x14,x15,x16,x17,x18,x19)=>f x0 x1 x2 x3 x4 x5 x6 x7 x8 x9 x10 x11 x12 dO x14 x15 x16 x17 x18 x19
theorem ahf (f:a0→a1→a2→a3→a4→a5→a6→a7→a8→a9→a10→a11→a12→jP→kN→kM→a16→a17→ni→pF→γ):u20 f (x0,x1,x2,x3,x4,x5,x6,x7,x8,x9,x10,x11,x12,dO,x14,x15,x16,x17,x18,x19)=f x0 x1 x2 x3 x4 x5 x6 x7 x8 x9 x10 x11 x12 dO x14 x15 x16 x17 x18 x19:=(rfl)
def u22 (f:a0→a1→a2→a3→a4→a5→a6→a7→a8→a9→a10→a11→a12→jP→kN→kM→a16→a17→ni→pF→a20→a21→γ):a0×a1×a2×a3×a4×a5×a6×a7×a8×a9×a10×a11×a12×jP×kN×kM×a16×a17×ni×pF×a20×a21→γ:=fun (x0,x1,x2,x3,x4,x5,x6,x7,x8,x9,x10,x11,x12,dO,x14,x15,x16,x17,x18,x19,x20,x21)=>f x0 x1 x2 x3 x4 x5 x6 x7 x8 x9 x10 x11 x12 dO x14 x15 x16 x17 x18 x19 x20 x21
theorem ale (f:a0→a1→a2→a3→a4→a5→a6→a7→a8→a9→a10→a11→a12→jP→kN→kM→a16→a17→ni→pF→a20→a21→γ):u22 f (x0,x1,x2,x3,x4,x5,x6,x7,x8,x9,x10,x11,x12,dO,x14,x15,x16,x17,x18,x19,x20,x21)=f x0 x1 x2 x3 x4 x5 x6 x7 x8 x9 x10 x11 x12 dO x14 x15 x16 x17 x18 x19 x20 x21:=(rfl)
def u23 (f:a0→a1→a2→a3→a4→a5→a6→a7→a8→a9→a10→a11→a12→jP→kN→kM→a16→a17→ni→pF→a20→a21→a22→γ):a0×a1×a2×a3×a4×a5×a6×a7×a8×a9×a10×a11×a12×jP×kN×kM×a16×a17×ni×pF×a20×a21×a22→γ:=fun (x0,x1,x2,x3,x4,x5,x6,x7,x8,x9,x10,x11,x12,dO,x14,x15,x16,x17,x18,x19,x20,x21,rW)=>f x0 x1 x2 x3 x4 x5 x6 x7 x8 x9 x10 x11 x12 dO x14 x15 x16 x17 x18 x19 x20 x21 rW
theorem acV (f:a0→a1→a2→a3→a4→a5→a6→a7→a8→a9→a10→a11→a12→jP→kN→kM→a16→a17→ni→pF→a20→a21→a22→γ):u23 f (x0,x1,x2,x3,x4,x5,x6,x7,x8,x9,x10,x11,x12,dO,x14,x15,x16,x17,x18,x19,x20,x21,rW)=f x0 x1 x2 x3 x4 x5 x6 x7 x8 x9 x10 x11 x12 dO x14 x15 x16 x17 x18 x19 x20 x21 rW:=(rfl)
def u24 (f:a0→a1→a2→a3→a4→a5→a6→a7→a8→a9→a10→a11→a12→jP→kN→kM→a16→a17→ni→pF→a20→a21→a22→a23→γ):a0×a1×a2×a3×a4×a5×a6×a7×a8×a9×a10×a11×a12×jP×kN×kM×a16×a17×ni×pF×a20×a21×a22×a23→γ:=fun (x0,x1,x2,x3,x4,x5,x6,x7,x8,x9,x10,x11,x12,dO,x14,x15,x16,x17,x18,x19,x20,x21,rW,x23)=>f x0 x1 x2 x3 x4 x5 x6 x7 x8 x9 x10 x11 x12 dO x14 x15 x16 x17 x18 x19 x20 x21 rW x23
theorem ald (f:a0→a1→a2→a3→a4→a5→a6→a7→a8→a9→a10→a11→a12→jP→kN→kM→a16→a17→ni→pF→a20→a21→a22→a23→γ):u24 f (x0,x1,x2,x3,x4,x5,x6,x7,x8,x9,x10,x11,x12,dO,x14,x15,x16,x17,x18,x19,x20,x21,rW,x23)=f x0 x1 x2 x3 x4 x5 x6 x7 x8 x9 x10 x11 x12 dO x14 x15 x16 x17 x18 x19 x20 x21 rW x23:=(rfl)
def u28 (f:a0→a1→a2→a3→a4→a5→a6→a7→a8→a9→a10→a11→a12→jP→kN→kM→a16→a17→ni→pF→a20→a21→a22→a23→a24→a25→a26→a27→γ):a0×a1×a2×a3×a4×a5×a6×a7×a8×a9×a10×a11×a12×jP×kN×kM×a16×a17×ni×pF×a20×a21×a22×a23×a24×a25×a26×a27→γ:=fun (x0,x1,x2,x3,x4,x5,x6,x7,x8,x9,x10,x11,x12,dO,x14,x15,x16,x17,x18,x19,x20,x21,rW,x23,x24,x25,Fj,x27)=>f x0 x1 x2 x3 x4 x5 x6 x7 x8 x9 x10 x11 x12 dO x14 x15 x16 x17 x18 x19 x20 x21 rW x23 x24 x25 Fj x27
theorem alc (f:a0→a1→a2→a3→a4→a5→a6→a7→a8→a9→a10→a11→a12→jP→kN→kM→a16→a17→ni→pF→a20→a21→a22→a23→a24→a25→a26→a27→γ):u28 f (x0,x1,x2,x3,x4,x5,x6,x7,x8,x9,x10,x11,x12,dO,x14,x15,x16,x17,x18,x19,x20,x21,rW,x23,x24,x25,Fj,x27)=f x0 x1 x2 x3 x4 x5 x6 x7 x8 x9 x10 x11 x12 dO x14 x15 x16 x17 x18 x19 x20 x21 rW x23 x24 x25 Fj x27:=(rfl)
def u29 (f:a0→a1→a2→a3→a4→a5→a6→a7→a8→a9→a10→a11→a12→jP→kN→kM→a16→a17→ni→pF→a20→a21→a22→a23→a24→a25→a26→a27→a28→γ):a0×a1×a2×a3×a4×a5×a6×a7×a8×a9×a10×a11×a12×jP×kN×kM×a16×a17×ni×pF×a20×a21×a22×a23×a24×a25×a26×a27×a28→γ:=fun (x0,x1,x2,x3,x4,x5,x6,x7,x8,x9,x10,x11,x12,dO,x14,x15,x16,x17,x18,x19,x20,x21,rW,x23,x24,x25,Fj,x27,x28)=>f x0 x1 x2 x3 x4 x5 x6 x7 x8 x9 x10 x11 x12 dO x14 x15 x16 x17 x18 x19 x20 x21 rW x23 x24 x25 Fj x27 x28
theorem alb (f:a0→a1→a2→a3→a4→a5→a6→a7→a8→a9→a10→a11→a12→jP→kN→kM→a16→a17→ni→pF→a20→a21→a22→a23→a24→a25→a26→a27→a28→γ):u29 f (x0,x1,x2,x3,x4,x5,x6,x7,x8,x9,x10,x11,x12,dO,x14,x15,x16,x17,x18,x19,x20,x21,rW,x23,x24,x25,Fj,x27,x28)=f x0 x1 x2 x3 x4 x5 x6 x7 x8 x9 x10 x11 x12 dO x14 x15 x16 x17 x18 x19 x20 x21 rW x23 x24 x25 Fj x27 x28:=(rfl)
def u30 (f:a0→a1→a2→a3→a4→a5→a6→a7→a8→a9→a10→a11→a12→jP→kN→kM→a16→a17→ni→pF→a20→a21→a22→a23→a24→a25→a26→a27→a28→a29→γ):a0×a1×a2×a3×a4×a5×a6×a7×a8×a9×a10×a11×a12×jP×kN×kM×a16×a17×ni×pF×a20×a21×a22×a23×a24×a25×a26×a27×a28×a29→γ:=fun (x0,x1,x2,x3,x4,x5,x6,x7,x8,x9,x10,x11,x12,dO,x14,x15,x16,x17,x18,x19,x20,x21,rW,x23,x24,x25,Fj,x27,x28,x29)=>f x0 x1 x2 x3 x4 x5 x6 x7 x8 x9 x10 x11 x12 dO x14 x15 x16 x17 x18 x19 x20 x21 rW x23 x24 x25 Fj x27 x28 x29
theorem ala (f:a0→a1→a2→a3→a4→a5→a6→a7→a8→a9→a10→a11→a12→jP→kN→kM→a16→a17→ni→pF→a20→a21→a22→a23→a24→a25→a26→a27→a28→a29→γ):u30 f (x0,x1,x2,x3,x4,x5,x6,x7,x8,x9,x10,x11,x12,dO,x14,x15,x16,x17,x18,x19,x20,x21,rW,x23,x24,x25,Fj,x27,x28,x29)=f x0 x1 x2 x3 x4 x5 x6 x7 x8 x9 x10 x11 x12 dO x14 x15 x16 x17 x18 x19 x20 x21 rW x23 x24 x25 Fj x27 x28 x29:=(rfl)
end
attribute [go_sem] uq0 rF yK Yq uq4 uq5 YA JW uq8 Oa HY acX ali ahh ahg alh alg alf acW ahf ale acV ald alc alb ala
theorem vm {α β:Type} [Inhabited β] {tb:oC} {f:Nat} {fn:Func} {c:Code} {n:Nat} {e:α→List Arg} {d:List Arg→α} {g:α→Option β} {u:β→List RV} {al:Bool} (htb:fC Tryz.prog tb) (hf:Tryz.prog.funcs[f]? =some fn) (hn:fn.ntmps=n) (h:∀ x r,g x=some r→∀ stop,ag0 Tryz.prog ty tb n fn al (u r) stop→stop [.code c] (St.begin (e x))) (hb:fn.body=some c:=by rfl) (hl:∀ x,(e x).length≤n:=by exact fun _=>nL rfl) (hm:(fn.name == "runtime.NumGoroutine")=false:=by decide):aF Tryz.prog f (mkT e d g u al).sp:=
 RJ bT htb hf hb hn (fun x r hr=>⟨hl x,h x r hr⟩) hm
attribute [go_sem] Tryz.results4 Tryz.results5 Tryz.results6 Tryz.results7 Tryz.results8 Tryz.results9 Tryz.results10 Tryz.results11 Tryz.results12 Tryz.results13 Tryz.results15 Tryz.results16 Tryz.results17 Tryz.results18 Tryz.results19 Tryz.results20 Tryz.results21 Tryz.results22 Tryz.results23 Tryz.results24 Tryz.results25 Tryz.results26 Tryz.results27 Tryz.results28 Tryz.results29 Tryz.results30 Tryz.results31 Tryz.results32 Tryz.results33 Tryz.results34 Tryz.results35 Tryz.results36 Tryz.results37 Tryz.results38 Tryz.results39 Tryz.results40 Tryz.results41 Tryz.results42 Tryz.results43 Tryz.results44 Tryz.results45 Tryz.results46 Tryz.results47 Tryz.results48 Tryz.results51 Tryz.results52 Tryz.results53 Tryz.results54 Tryz.results55 Tryz.results56 Tryz.results57 Tryz.results58 Tryz.results59 Tryz.results60 Tryz.results61 Tryz.results62 Tryz.results63 Tryz.results64 Tryz.results65 Tryz.results66 Tryz.results67 Tryz.results68 Tryz.results69 Tryz.results70 Tryz.results73 Tryz.results74 Tryz.results75 Tryz.results76 Tryz.results77 Tryz.results78 Tryz.results79 Tryz.results80 Tryz.results81 Tryz.results82 Tryz.results83 Tryz.results84 Tryz.results85 Tryz.results86 Tryz.results87 Tryz.results88 Tryz.results89 Tryz.results90 Tryz.results91 Tryz.results92 Tryz.results93 Tryz.results94 Tryz.results95 Tryz.results96 Tryz.results97 Tryz.results98 Tryz.results99 Tryz.results100 Tryz.results101 Tryz.results106 Tryz.results107 Tryz.results108 Tryz.results109 Tryz.results110 Tryz.results111 Tryz.results112 Tryz.results113 Tryz.results114 Tryz.results115 Tryz.results116 Tryz.results117 Tryz.results118 Tryz.results119 Tryz.results120 Tryz.results121 Tryz.results122 Tryz.results123 Tryz.results124 Tryz.results125 Tryz.results126 Tryz.results127 Tryz.results128 Tryz.results129 Tryz.results130 Tryz.results131 Tryz.results132 Tryz.results133 Tryz.results134 Tryz.results135 Tryz.results136 Tryz.results137 Tryz.results138 Tryz.results139 Tryz.results140 Tryz.results141 Tryz.results142 Tryz.results143 Tryz.results144 Tryz.results145 Tryz.results149 Tryz.results150 Tryz.results151 Tryz.results153 Tryz.results154 Tryz.results155 Tryz.results156 Tryz.results157 Tryz.results158 Tryz.results159 Tryz.results160 Tryz.results161 Tryz.results162 Tryz.results164 Tryz.results165 Tryz.results166 Tryz.results167 Tryz.results168 Tryz.results169 Tryz.results170 Tryz.results171 Tryz.results172 Tryz.results173 Tryz.results174 Tryz.results175 Tryz.results176 Tryz.results177 Tryz.results178 Tryz.results179 Tryz.results180 Tryz.results181 Tryz.results182 Tryz.results183 Tryz.results184 Tryz.results191 Tryz.results192 Tryz.results193 Tryz.results194 Tryz.results195 Tryz.results196 Tryz.results197 Tryz.results198 Tryz.results199 Tryz.results200 Tryz.results201 Tryz.results204 Tryz.results205 Tryz.results206 Tryz.results207 Tryz.results208 Tryz.results214 Tryz.results215 Tryz.results216 Tryz.results217 Tryz.results218 Tryz.results219 Tryz.results220 Tryz.results221 Tryz.results222 Tryz.results231 Tryz.results232 Tryz.results233 Tryz.results234 Tryz.results235 Tryz.results236 Tryz.results237 Tryz.results238 Tryz.results239 Tryz.results240 Tryz.results241 Tryz.results242 Tryz.results252 Tryz.results253 Tryz.results254 Tryz.results255 Tryz.results260 Tryz.results261
section
variable {β:Type} [Inhabited β] (u:β→List RV) (al:Bool)
def qw0:List Arg:=[]
def qd0 (_:List Arg):Unit:=()
def qT0 (r:Option β):=mkT (u0 qw0) qd0 (u0 r) u al
attribute [go_sem] qw0 qd0 qT0
def qw1 (a0 a1 a2:Int):List Arg:=[.c (.int .i64 a0),.c (.int .i64 a1),.c (.int .i64 a2)]
def qd1:List Arg→Int×Int×Int
 | [.c c0,.c c1,.c c2]=>(aB c0,aB c1,aB c2)
 | _=>default
def qT1 (r:Int→Int→Int→Option β):=mkT (u3 qw1) qd1 (u3 r) u al
attribute [go_sem] qw1 qd1 qT1
def qw2 (a0:Bool) (a1:Int):List Arg:=[.c (.bool a0),.c (.int .i64 a1)]
def qd2:List Arg→Bool×Int
 | [.c c0,.c c1]=>(abB c0,aB c1)
 | _=>default
def qT2 (r:Bool→Int→Option β):=mkT (u2 qw2) qd2 (u2 r) u al
attribute [go_sem] qw2 qd2 qT2
def qw3 (a0:aZ):List Arg:=[.c (ah 1 cO a0)]
def qd3:List Arg→aZ
 | [.c c0]=>aG jQ c0
 | _=>default
def qT3 (r:aZ→Option β):=mkT (u1 qw3) qd3 (u1 r) u al
attribute [go_sem] qw3 qd3 qT3
def qw4 (a0:Int):List Arg:=[.c (.int .i64 a0)]
def qd4:List Arg→Int
 | [.c c0]=>aB c0
 | _=>default
def KT (r:Int→Option β):=mkT (u1 qw4) qd4 (u1 r) u al
attribute [go_sem] qw4 qd4 KT
def qw5 (a0:au):List Arg:=[.c (ah 2 aO a0)]
def qd5:List Arg→au
 | [.c c0]=>aG bW c0
 | _=>default
def qT5 (r:au→Option β):=mkT (u1 qw5) qd5 (u1 r) u al
attribute [go_sem] qw5 qd5 qT5
def qw7 (a0 a1:Int):List Arg:=[.c (.int .i64 a0),.c (.int .i64 a1)]
def qd7:List Arg→Int×Int
 | [.c c0,.c c1]=>(aB c0,aB c1)
 | _=>default
def qT7 (r:Int→Int→Option β):=mkT (u2 qw7) qd7 (u2 r) u al
attribute [go_sem] qw7 qd7 qT7
def apl (a0 a1:au):List Arg:=[.c (ah 2 aO a0),.c (ah 2 aO a1)]
def aq0:List Arg→au×au
 | [.c c0,.c c1]=>(aG bW c0,aG bW c1)
 | _=>default
def Zu (r:au→au→Option β):=mkT (u2 apl) aq0 (u2 r) u al
attribute [go_sem] apl aq0 Zu
def apk (a0 a1:Int) (a2:au) (a3:aj):List Arg:=[.agg [.int .i64 a0,.int .i64 a1,ah 2 aO a2,ah 1 aN a3]]
def aqZ:List Arg→Int×Int×au×aj
 | [.agg [c0,c1,c2,c3]]=>(aB c0,aB c1,aG bW c2,aG bP c3)
 | _=>default
def WY (r:Int→Int→au→aj→Option β):=mkT (u4 apk) aqZ (u4 r) u al
attribute [go_sem] apk aqZ WY
def apj (a0 a1:Int) (a2:au) (a3:aj) (a4:au) (a5:aj) (a6:Int):List Arg:=[.agg [.int .i64 a0,.int .i64 a1,ah 2 aO a2,ah 1 aN a3,ah 2 aO a4,ah 1 aN a5],.c (.int .i64 a6)]
def aqY:List Arg→Int×Int×au×aj×au×aj×Int
 | [.agg [c0,c1,c2,c3,c4,c5],.c c6]=>(aB c0,aB c1,aG bW c2,aG bP c3,aG bW c4,aG bP c5,aB c6)
 | _=>default
def aev (r:Int→Int→au→aj→au→aj→Int→Option β):=mkT (u7 apj) aqY (u7 r) u al
attribute [go_sem] apj aqY aev
def aph (a0 a1 a2:Int) (a3:au) (a4:aj) (a5:au) (a6:aj):List Arg:=[.c (.int .i64 a0),.ptr [.int .i64 a1,.int .i64 a2,ah 2 aO a3,ah 1 aN a4,ah 2 aO a5,ah 1 aN a6]]
def aqX:List Arg→Int×Int×Int×au×aj×au×aj
 | [.c c0,.ptr [c1,c2,c3,c4,c5,c6]]=>(aB c0,aB c1,aB c2,aG bW c3,aG bP c4,aG bW c5,aG bP c6)
 | _=>default
def ail (r:Int→Int→Int→au→aj→au→aj→Option β):=mkT (u7 aph) aqX (u7 r) u al
attribute [go_sem] aph aqX ail
def apd (a0 a1:Int) (a2:au) (a3:aj) (a4 a5:aZ):List Arg:=[.agg [.int .i64 a0,.int .i64 a1,ah 2 aO a2,ah 1 aN a3],.agg [ah 1 cO a4,ah 1 cO a5]]
def aqT:List Arg→Int×Int×au×aj×aZ×aZ
 | [.agg [c0,c1,c2,c3],.agg [c4,c5]]=>(aB c0,aB c1,aG bW c2,aG bP c3,aG jQ c4,aG jQ c5)
 | _=>default
def Zt (r:Int→Int→au→aj→aZ→aZ→Option β):=mkT (u6 apd) aqT (u6 r) u al
attribute [go_sem] apd aqT Zt
def apc (a0 a1:Int) (a2:au) (a3:aj) (a4 a5:aZ) (a6:au) (a7 a8:Int):List Arg:=[.agg [.int .i64 a0,.int .i64 a1,ah 2 aO a2,ah 1 aN a3,ah 1 cO a4,ah 1 cO a5,ah 2 aO a6,.int .i64 a7,.int .i64 a8]]
def aqS:List Arg→Int×Int×au×aj×aZ×aZ×au×Int×Int
 | [.agg [c0,c1,c2,c3,c4,c5,c6,c7,c8]]=>(aB c0,aB c1,aG bW c2,aG bP c3,aG jQ c4,aG jQ c5,aG bW c6,aB c7,aB c8)
 | _=>default
def KU (r:Int→Int→au→aj→aZ→aZ→au→Int→Int→Option β):=mkT (u9 apc) aqS (u9 r) u al
attribute [go_sem] apc aqS KU
def apb (a0:bD):List Arg:=[.c (ah 6 bF a0)]
def aqR:List Arg→bD
 | [.c c0]=>aG fV c0
 | _=>default
def aeu (r:bD→Option β):=mkT (u1 apb) aqR (u1 r) u al
attribute [go_sem] apb aqR aeu
def ao8 (a0 a1:Int) (a2:au) (a3:aj) (a4:Int):List Arg:=[.agg [.int .i64 a0,.int .i64 a1,ah 2 aO a2,ah 1 aN a3],.c (.int .i64 a4)]
def aqO:List Arg→Int×Int×au×aj×Int
 | [.agg [c0,c1,c2,c3],.c c4]=>(aB c0,aB c1,aG bW c2,aG bP c3,aB c4)
 | _=>default
def aes (r:Int→Int→au→aj→Int→Option β):=mkT (u5 ao8) aqO (u5 r) u al
attribute [go_sem] ao8 aqO aes
def ao7 (a0 a1:Int) (a2:au) (a3:aj) (a4 a5:aZ) (a6:au) (a7 a8 a9 a10:Int):List Arg:=[.agg [.int .i64 a0,.int .i64 a1,ah 2 aO a2,ah 1 aN a3,ah 1 cO a4,ah 1 cO a5,ah 2 aO a6,.int .i64 a7,.int .i64 a8],.c (.int .i64 a9),.c (.int .i64 a10)]
def aqN:List Arg→Int×Int×au×aj×aZ×aZ×au×Int×Int×Int×Int
 | [.agg [c0,c1,c2,c3,c4,c5,c6,c7,c8],.c c9,.c c10]=>(aB c0,aB c1,aG bW c2,aG bP c3,aG jQ c4,aG jQ c5,aG bW c6,aB c7,aB c8,aB c9,aB c10)
 | _=>default
def aik (r:Int→Int→au→aj→aZ→aZ→au→Int→Int→Int→Int→Option β):=mkT (u11 ao7) aqN (u11 r) u al
attribute [go_sem] ao7 aqN aik
def ao6 (a0 a1:Int):List Arg:=[.agg [.int .i64 a0,.int .i64 a1]]
def aqM:List Arg→Int×Int
 | [.agg [c0,c1]]=>(aB c0,aB c1)
 | _=>default
def O6 (r:Int→Int→Option β):=mkT (u2 ao6) aqM (u2 r) u al
attribute [go_sem] ao6 aqM O6
def ao4 (a0 a1:Int) (a2:au) (a3:aj) (a4:aZ):List Arg:=[.agg [.int .i64 a0,.int .i64 a1,ah 2 aO a2,ah 1 aN a3],.c (ah 1 cO a4)]
def aqK:List Arg→Int×Int×au×aj×aZ
 | [.agg [c0,c1,c2,c3],.c c4]=>(aB c0,aB c1,aG bW c2,aG bP c3,aG jQ c4)
 | _=>default
def aij (r:Int→Int→au→aj→aZ→Option β):=mkT (u5 ao4) aqK (u5 r) u al
attribute [go_sem] ao4 aqK aij
def aoW (a0:bg) (a1:aW) (a2:bf) (a3:au) (a4 a5 a6 a7:Int):List Arg:=[.agg [ah 4 cZ a0,ah 5 bU a1,ah 3 dn a2,ah 2 aO a3,.int .i64 a4,.int .i64 a5,.int .i64 a6,.int .i64 a7]]
def aqC:List Arg→bg×aW×bf×au×Int×Int×Int×Int
 | [.agg [c0,c1,c2,c3,c4,c5,c6,c7]]=>(aG jF c0,aG gZ c1,aG jG c2,aG bW c3,aB c4,aB c5,aB c6,aB c7)
 | _=>default
def aer (r:bg→aW→bf→au→Int→Int→Int→Int→Option β):=mkT (u8 aoW) aqC (u8 r) u al
attribute [go_sem] aoW aqC aer
def aoS (a0 a1:Int) (a2:au) (a3:aj) (a4 a5:aZ) (a6:au) (a7 a8:Int) (a9:au):List Arg:=[.agg [.int .i64 a0,.int .i64 a1,ah 2 aO a2,ah 1 aN a3,ah 1 cO a4,ah 1 cO a5,ah 2 aO a6,.int .i64 a7,.int .i64 a8],.c (ah 2 aO a9)]
def aqy:List Arg→Int×Int×au×aj×aZ×aZ×au×Int×Int×au
 | [.agg [c0,c1,c2,c3,c4,c5,c6,c7,c8],.c c9]=>(aB c0,aB c1,aG bW c2,aG bP c3,aG jQ c4,aG jQ c5,aG bW c6,aB c7,aB c8,aG bW c9)
 | _=>default
def O5 (r:Int→Int→au→aj→aZ→aZ→au→Int→Int→au→Option β):=mkT (u10 aoS) aqy (u10 r) u al
attribute [go_sem] aoS aqy O5
def aoM (a0 a1:Int) (a2:au) (a3:aj) (a4 a5:aZ) (a6:bY):List Arg:=[.agg [.int .i64 a0,.int .i64 a1,ah 2 aO a2,ah 1 aN a3],.agg [ah 1 cO a4,ah 1 cO a5],.c (ah 3 dU a6)]
def aqs:List Arg→Int×Int×au×aj×aZ×aZ×bY
 | [.agg [c0,c1,c2,c3],.agg [c4,c5],.c c6]=>(aB c0,aB c1,aG bW c2,aG bP c3,aG jQ c4,aG jQ c5,aG jX c6)
 | _=>default
def arD (r:Int→Int→au→aj→aZ→aZ→bY→Option β):=mkT (u7 aoM) aqs (u7 r) u al
attribute [go_sem] aoM aqs arD
def aoI (a0:bg) (a1:aW) (a2:bf) (a3:au) (a4 a5 a6 a7 a8:Int):List Arg:=[.agg [ah 4 cZ a0,ah 5 bU a1,ah 3 dn a2,ah 2 aO a3,.int .i64 a4,.int .i64 a5,.int .i64 a6,.int .i64 a7],.c (.int .i64 a8)]
def aqn:List Arg→bg×aW×bf×au×Int×Int×Int×Int×Int
 | [.agg [c0,c1,c2,c3,c4,c5,c6,c7],.c c8]=>(aG jF c0,aG gZ c1,aG jG c2,aG bW c3,aB c4,aB c5,aB c6,aB c7,aB c8)
 | _=>default
def WX (r:bg→aW→bf→au→Int→Int→Int→Int→Int→Option β):=mkT (u9 aoI) aqn (u9 r) u al
attribute [go_sem] aoI aqn WX
def an' (a0 a1:Int) (a2:au) (a3:aj) (a4 a5:aZ) (a6:au) (a7 a8:Int) (a9:au) (a10 a11 a12:Int):List Arg:=[.agg [.int .i64 a0,.int .i64 a1,ah 2 aO a2,ah 1 aN a3,ah 1 cO a4,ah 1 cO a5,ah 2 aO a6,.int .i64 a7,.int .i64 a8],.c (ah 2 aO a9),.agg [.int .i64 a10,.int .i64 a11,.int .i64 a12]]
def apP:List Arg→Int×Int×au×aj×aZ×aZ×au×Int×Int×au×Int×Int×Int
 | [.agg [c0,c1,c2,c3,c4,c5,c6,c7,c8],.c c9,.agg [c10,c11,c12]]=>(aB c0,aB c1,aG bW c2,aG bP c3,aG jQ c4,aG jQ c5,aG bW c6,aB c7,aB c8,aG bW c9,aB c10,aB c11,aB c12)
 | _=>default
def ah9 (r:Int→Int→au→aj→aZ→aZ→au→Int→Int→au→Int→Int→Int→Option β):=mkT (u13 an') apP (u13 r) u al
attribute [go_sem] an' apP ah9
def qu0 (v:Int×Int×au×aj×aZ×aZ×au×Int×Int):List RV:=[.agg [.d (.int .i64 v.1),.d (.int .i64 v.2.1),.own (ah 2 aO v.2.2.1),.own (ah 1 aN v.2.2.2.1),.own (ah 1 cO v.2.2.2.2.1),.own (ah 1 cO v.2.2.2.2.2.1),.own (ah 2 aO v.2.2.2.2.2.2.1),.d (.int .i64 v.2.2.2.2.2.2.2.1),.d (.int .i64 v.2.2.2.2.2.2.2.2)]]
attribute [go_sem] qu0
def qu1 (v:bD):List RV:=[.c (.own (ah 6 bF v))]
attribute [go_sem] qu1
def qE (v:Bool):List RV:=[.c (.d (.bool v))]
attribute [go_sem] qE
def lK (v:Int):List RV:=[.c (.d (.int .i64 v))]
attribute [go_sem] lK
def KR (v:Int×Int):List RV:=[.c (.d (.int .i64 v.1)),.c (.d (.int .i64 v.2))]
attribute [go_sem] KR
def qu5 (v:au):List RV:=[.c (.own (ah 2 aO v))]
attribute [go_sem] qu5
def qu6 (v:Int×Bool):List RV:=[.c (.d (.int .i64 v.1)),.c (.d (.bool v.2))]
attribute [go_sem] qu6
def qu7 (v:Int×Int):List RV:=[.agg [.d (.int .i64 v.1),.d (.int .i64 v.2)]]
attribute [go_sem] qu7
def qu8 (v:Int×Int×au×aj×au×aj×Int):List RV:=[.agg [.d (.int .i64 v.1),.d (.int .i64 v.2.1),.d (ah 2 aO v.2.2.1),.d (ah 1 aN v.2.2.2.1),.own (ah 2 aO v.2.2.2.2.1),.own (ah 1 aN v.2.2.2.2.2.1)],.c (.d (.int .i64 v.2.2.2.2.2.2))]
attribute [go_sem] qu8
def qu9 (v:Int×Int×au×aj×aZ×aZ×au×Int×Int×Int):List RV:=[.agg [.d (.int .i64 v.1),.d (.int .i64 v.2.1),.d (ah 2 aO v.2.2.1),.d (ah 1 aN v.2.2.2.1),.d (ah 1 cO v.2.2.2.2.1),.d (ah 1 cO v.2.2.2.2.2.1),.d (ah 2 aO v.2.2.2.2.2.2.1),.d (.int .i64 v.2.2.2.2.2.2.2.1),.d (.int .i64 v.2.2.2.2.2.2.2.2.1)],.c (.d (.int .i64 v.2.2.2.2.2.2.2.2.2))]
attribute [go_sem] qu9
def aen (v:au×Int):List RV:=[.c (.own (ah 2 aO v.1)),.c (.d (.int .i64 v.2))]
attribute [go_sem] aen
def apE (v:bY):List RV:=[.c (.own (ah 3 dU v))]
attribute [go_sem] apE
def ah6 (v:aj×Int):List RV:=[.c (.own (ah 1 aN v.1)),.c (.d (.int .i64 v.2))]
attribute [go_sem] ah6
def IC (v:Int×Int×Int×Int×Int×Int×Int×Int×Int×Int×Int×Int×Int×Int):List RV:=[.agg [.d (.int .i64 v.1),.d (.int .i64 v.2.1),.d (.int .i64 v.2.2.1),.d (.int .i64 v.2.2.2.1),.d (.int .i64 v.2.2.2.2.1),.d (.int .i64 v.2.2.2.2.2.1),.d (.int .i64 v.2.2.2.2.2.2.1),.d (.int .i64 v.2.2.2.2.2.2.2.1),.d (.int .i64 v.2.2.2.2.2.2.2.2.1),.d (.int .i64 v.2.2.2.2.2.2.2.2.2.1),.d (.int .i64 v.2.2.2.2.2.2.2.2.2.2.1),.d (.int .i64 v.2.2.2.2.2.2.2.2.2.2.2.1),.d (.int .i64 v.2.2.2.2.2.2.2.2.2.2.2.2.1),.d (.int .i64 v.2.2.2.2.2.2.2.2.2.2.2.2.2)]]
attribute [go_sem] IC
def aem (v:ByteArray):List RV:=[.c (.d (.str v))]
attribute [go_sem] aem
def apq (v:aZ):List RV:=[.c (.own (ah 1 cO v))]
attribute [go_sem] apq
end
end Go.Proofs.YtofkgmldcjagmaaGreatDoor

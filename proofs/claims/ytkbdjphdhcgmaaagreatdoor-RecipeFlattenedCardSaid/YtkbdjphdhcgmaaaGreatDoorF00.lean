/- Lists in cells, written by wip/dec. -/
import Derived.Test.YtkbdjphdhcgmaaaGreatDoorTy
import Derived.Test.YtkbdjphdhcgmaaaGreatDoorAbsTac
import Derived.Test.YtkbdjphdhcgmaaaGreatDoorLib
import Derived.WalkKit
set_option linter.unusedVariables false
set_option linter.unusedSimpArgs false
set_option linter.constructorNameAsVariable false
set_option maxHeartbeats 4000000
set_option maxRecDepth 20000
namespace Go.Proofs.YtkbdjphdhcgmaaaGreatDoor
open Go.dR
attribute [go_sem] Ej mV lq acF EG fP nX acE af2 Kv af4 lF
theorem aaQ {α:Type} (r:List α):List.append [] r=r:=rfl
theorem X7 {α:Type} (a:α) (l r:List α):List.append (a::l) r=a::List.append l r:=rfl
attribute [go_sem] aaQ X7
section
variable {α β:Type} [Inhabited β] (e:α->List Arg) (d:List Arg->α) (f:α->Option β) (u:β->List RV) (al:Bool) (a:List Arg)
theorem mkP:(mkT e d f u al).sp.pre a=(eqvArgs a (e (d a))/\(f (d a)).isSome=true):=(rfl)
theorem mkR:(mkT e d f u al).sp.res a=u ((f (d a)).getD default):=(rfl)
theorem mkA:(mkT e d f u al).sp.alias=al:=(rfl)
end
attribute [go_sem] mkP mkR mkA
inductive Hl where
 | nil
 | cons (a:Int) (b:Int) (c:Int) (d:Int) (e:Int) (f r:Hl)
instance:Inhabited Hl:=⟨.nil⟩
abbrev aK:=List (Int×Int×Int×Int×Int×Hl)
def hU:Hl->aK
 | .nil=>[]
 | .cons a b c d e f r=>(a,b,c,d,e,f)::hU r
def hM:aK->Hl
 | []=> .nil
 | (a,b,c,d,e,f)::r=> .cons a b c d e f (hM r)
theorem zZ:∀ l,hU (hM l)=l
 | []=>rfl
 | (a,b,c,d,e,f)::r=>by simp only [hM,hU,zZ r]
theorem xY:∀ x,hM (hU x)=x
 | .nil=>rfl
 | .cons a b c d e f r=>by simp only [hM,hU,xY r]
def hN:Hl->Nat
 | .nil=>0
 | .cons _ _ _ _ _ _ r=>hN r+1
def hG:Hl->Nat->List D
 | .nil,_=>[]
 | .cons a b c d e f _,0=>[.int .i64 a,.int .i64 b,.int .i64 c,.int .i64 d,.int .i64 e,.sl 6 (hN f) (hG f)]
 | .cons _ _ _ _ _ _ r,i+1=>hG r i
def hE (x:Hl):D:= .sl 6 (hN x) (hG x)
def hB {α:Type} (f:Nat->α):Nat->Nat->List α
 | _,0=>[]
 | i,n+1=>f i::hB f (i+1) n
mutual
def hD:D->Hl
 | .sl _ n g=>hM (hB (fun i=>dN (g i)) 0 n)
 | _=> .nil
def dN:List D->Int×Int×Int×Int×Int×Hl
 | [.int _ a,.int _ b,.int _ c,.int _ d,.int _ e,f]=>(a,b,c,d,e,hD f)
 | _=>default
end
def aZ (x:Int×Int×Int×Int×Int×Hl):List D:=[.int .i64 x.1,.int .i64 x.2.1,.int .i64 x.2.2.1,.int .i64 x.2.2.2.1,.int .i64 x.2.2.2.2.1,hE x.2.2.2.2.2]
theorem Ho (x:Int×Int×Int×Int×Int×Hl):aZ x=[.int .i64 x.1,.int .i64 x.2.1,.int .i64 x.2.2.1,.int .i64 x.2.2.2.1,.int .i64 x.2.2.2.2.1,hE x.2.2.2.2.2]:=by rw [aZ]
theorem uY:∀ x,(hU x).length=hN x
 | .nil=>rfl
 | .cons _ _ _ _ _ _ r=>by simp only [hU,hN,List.length_cons,uY r]
theorem akl:∀ x i,i<hN x->hG x i=aZ ((hU x).getD i default)
 | .nil,_,h=>absurd h (by simp [hN])
 | .cons _ _ _ _ _ _ r,0,_=>rfl
 | .cons _ _ _ _ _ _ r,i+1,h=>by
  simp only [hG,hU,List.getD_cons_succ]
  exact akl r i (by simp only [hN] at h; omega)
theorem abx {α:Type} (f:Nat->α):∀ n i,hB f i n=(List.range n).map fun j=>f (i+j)
 | 0,_=>rfl
 | n+1,i=>by
  rw [hB,abx f n (i+1),List.range_succ_eq_map,List.map_cons,List.map_map]
  congr 1
  refine List.map_congr_left fun j _=> ?_
  simp only [Function.comp]
  congr 1; omega
theorem afz (s n:Nat) (g:Nat->List D):hD (.sl s n g)=hM (aG dN (.sl s n g)):=by
 rw [hD,abx]
 simp only [aG,D.len,D.nth,Nat.zero_add]
theorem JI:∀ x,aG dN (hE x)=hU x
 | .nil=>rfl
 | .cons a b c d e f r=>by
  show (List.range (hN r+1)).map (fun i=>dN (hG (.cons a b c d e f r) i))=_
  rw [List.range_succ_eq_map,List.map_cons,List.map_map,hU]
  have h1:dN (hG (.cons a b c d e f r) 0)=(a,b,c,d,e,f):=by
   show dN [.int .i64 a,.int .i64 b,.int .i64 c,.int .i64 d,.int .i64 e,hE f]=_
   rw [dN,hE,afz]
   have:=JI f
   rw [hE] at this
   rw [this,xY]
  rw [h1]
  congr 1
  exact JI r
theorem akn (x:Hl):hD (hE x)=x:=by
 show hD (.sl 6 (hN x) (hG x))=x
 rw [afz]; show hM (aG dN (hE x))=x
 rw [JI,xY]
theorem Yi (x:Int×Int×Int×Int×Int×Hl):dN (aZ x)=x:=by
 show dN [_,_,_,_,_,_]=x
 rw [dN,akn]
theorem wG (l:aK):aG dN (ah 6 aZ l)=l:=bU _ _ _ _ Yi
theorem akm (l:aK):hD (ah 6 aZ l)=hM l:=by
 show hD (.sl _ _ _)=_
 rw [afz]; show hM (aG dN (ah 6 aZ l))=_
 rw [wG]
theorem abv (x:Hl):(hE x).len=(hU x).length:=(uY x).symm
theorem afy (x:Hl):(hE x).bZ=true:=rfl
theorem Ya (x:Hl):(hE x).stride=6:=rfl
theorem abw (x:Hl):Go.dR.Can 6 aZ (hU x) (hE x):=⟨rfl,rfl,(uY x).symm,fun i hi=>by
 show mD (hG x i) _
 rw [akl x i (by rw [<- uY]; exact hi)]; exact .refl _⟩
theorem afH (x:Hl):mG (hE x) (ah 6 aZ (hU x))=True:=mV (abw x)
theorem afJ (x:Hl):mG (hE x) (hE x)=True:=eq_true (.refl _)
theorem WG {l:aK} {d:D} (h:Go.dR.Can 6 aZ l d):mG d (hE (hM l))=True:=eq_true (mF.eqv ⟨h.1,rfl,h.2.1.trans rfl,h.2.2.1.trans (by rw [abv,zZ]),fun i hi=>by
 have hl:=h.2.2.1
 have h1:=h.2.2.2 i (by omega)
 have h2:(hE (hM l)).nth i=aZ (l.getD i default):=by
  show hG (hM l) i=_
  rw [akl _ i (by rw [<- uY,zZ]; omega),zZ]
 rw [h2]; exact h1⟩)
theorem afI (s:Nat) (g:Nat->List D):mG (.sl s 0 g) (hE .nil)=True:=eq_true (.nil _ _ _ _)
theorem aBK (s:Nat) (g:Nat->List D):hD (.sl s 0 g)= .nil:=(rfl)
theorem akN (x:Hl):Go.dR.Can 6 aZ (hU x) (hE x)=True:=eq_true (abw x)
theorem RZ {α:Type} [Inhabited α] {s s':Nat} {f:α->List D} {l:List α} {a:α} {x:D} {c0 c:List D} (hx:Go.dR.Can s f l x) (hn:c0.length=c.length) (hc:iZ c (f a)):Go.dR.Can s f (l++[a]) ((D.cat x (D.ofList s' [c0])).setAt l.length 0 c)=True:=by
 obtain ⟨h1,h2,h3,h4⟩:=hx
 refine eq_true ⟨rfl,h2,by show x.len+1=_; rw [h3]; simp,fun i hi=> ?_⟩
 have hi':i<l.length+1:=by simpa using hi
 by_cases e:i=l.length
 ·subst e
  have g1:((D.cat x (D.ofList s' [c0])).setAt l.length 0 c).nth l.length=c:=by
   show (if l.length=l.length then splice ((D.cat x (D.ofList s' [c0])).nth l.length) 0 c else _)=c
   rw [if_pos rfl]
   have:(D.cat x (D.ofList s' [c0])).nth l.length=c0:=by
    show (if l.length<x.len then _ else _)=_
    rw [if_neg (by omega),h3,Nat.sub_self]; rfl
   rw [this]; simp [splice,hn]
  rw [g1]
  have g2:(l++[a]).getD l.length default=a:=by simp [List.getD_eq_getElem?_getD]
  rw [g2]; exact iw hc
 ·have hlt:i<l.length:=by omega
  have g1:((D.cat x (D.ofList s' [c0])).setAt l.length 0 c).nth i=x.nth i:=by
   show (if i=l.length then _ else (D.cat x (D.ofList s' [c0])).nth i)=_
   rw [if_neg e]
   show (if i<x.len then x.nth i else _)=_
   rw [if_pos (by omega)]
  rw [g1]
  have g2:(l++[a]).getD i default=l.getD i default:=by simp [List.getD_eq_getElem?_getD,List.getElem?_append_left hlt]
  rw [g2]; exact h4 i hlt
attribute [go_sem] Ho dN wG zZ xY JI akn akm abv afy Ya afH afJ WG afI aBK akN RZ
abbrev bn:=List (Int)
def cu (x:Int):List D:=[.int .i64 x]
theorem aB9 (x:Int):cu x=[.int .i64 x]:=by rw [cu]
def jM:List D->Int
 | [.int _ a]=>a
 | _=>default
theorem aBN (x:Int):jM (cu x)=x:=by rfl
theorem Ox (l:List (Int)):aG jM (ah 1 cu l)=l:=bU _ _ _ _ aBN
theorem aBV (l:List (Int)):(ah 1 cu l).flat=True:=lY (fun _=>rfl)
attribute [go_sem] aB9 jM Ox aBV
abbrev au:=List (Int×Int)
def aT (x:Int×Int):List D:=[.int .i64 x.1,.int .i64 x.2]
theorem aho (x:Int×Int):aT x=[.int .i64 x.1,.int .i64 x.2]:=by rw [aT]
def bY:List D->Int×Int
 | [.int _ a,.int _ b]=>(a,b)
 | _=>default
theorem ahj (x:Int×Int):bY (aT x)=x:=by rfl
theorem J7 (l:List (Int×Int)):aG bY (ah 2 aT l)=l:=bU _ _ _ _ ahj
theorem auE (l:List (Int×Int)):(ah 2 aT l).flat=True:=lY (fun _=>rfl)
attribute [go_sem] aho bY J7 auE
theorem auL (o:Option (Int×Int)):decP bY (.pt o.isSome [.int .i64 (o.getD default).1,.int .i64 (o.getD default).2])=o:=by have:=qw ahj o; rwa [aho] at this
attribute [go_sem] auL
abbrev aj:=List ((List (Int×Int)))
def aQ (x:au):List D:=[ah 2 aT x]
theorem afM (x:au):aQ x=[ah 2 aT x]:=by rw [aQ]
def bQ:List D->au
 | [a]=>aG bY a
 | _=>default
theorem afC (x:au):bQ (aQ x)=x:=by simp only [bQ,aQ,J7]
theorem Ot (l:List (au)):aG bQ (ah 1 aQ l)=l:=bU _ _ _ _ afC
theorem afL {l:List (au)} {d:D} (h:jy 2 aT l d):oL d (ah 1 aQ l)=True:=iC (fun _=>rfl) h
theorem acu (l:List (au)):jy 2 aT l (ah 1 aQ l)=True:=iF (fun _=>rfl) l
attribute [go_sem] afL acu
attribute [go_sem] afM bQ Ot
def nY (x:aj):List D:=[ah 1 aQ x]
theorem YC (x:aj):nY x=[ah 1 aQ x]:=by rw [nY]
def xZ:List D->aj
 | [a]=>aG bQ a
 | _=>default
theorem Yd (x:aj):xZ (nY x)=x:=by simp only [xZ,nY,Ot]
theorem Rx (l:List (aj)):aG xZ (ah 1 nY l)=l:=bU _ _ _ _ Yd
theorem Yz {l:List (aj)} {d:D} (h:jy 1 aQ l d):oL d (ah 1 nY l)=True:=iC (fun _=>rfl) h
theorem RJ (l:List (aj)):jy 1 aQ l (ah 1 nY l)=True:=iF (fun _=>rfl) l
attribute [go_sem] Yz RJ
attribute [go_sem] YC xZ Rx
abbrev EX:=List ((List (Int)))
def tV (x:bn):List D:=[ah 1 cu x]
theorem akG (x:bn):tV x=[ah 1 cu x]:=by rw [tV]
def NP:List D->bn
 | [a]=>aG jM a
 | _=>default
theorem akt (x:bn):NP (tV x)=x:=by simp only [NP,tV,Ox]
theorem WJ (l:List (bn)):aG NP (ah 1 tV l)=l:=bU _ _ _ _ akt
theorem akD {l:List (bn)} {d:D} (h:jy 1 cu l d):oL d (ah 1 tV l)=True:=iC (fun _=>rfl) h
theorem afZ (l:List (bn)):jy 1 cu l (ah 1 tV l)=True:=iF (fun _=>rfl) l
attribute [go_sem] akD afZ
attribute [go_sem] akG NP WJ
def kM (x:aK):List D:=[ah 6 aZ x]
theorem Om (x:aK):kM x=[ah 6 aZ x]:=by rw [kM]
def qP:List D->aK
 | [a]=>aG dN a
 | _=>default
theorem NJ (x:aK):qP (kM x)=x:=by simp only [qP,kM,wG]
theorem J6 (l:List (aK)):aG qP (ah 1 kM l)=l:=bU _ _ _ _ NJ
theorem Oh {l:List (aK)} {d:D} (h:jy 6 aZ l d):oL d (ah 1 kM l)=True:=iC (fun _=>rfl) h
theorem Ku (l:List (aK)):jy 6 aZ l (ah 1 kM l)=True:=iF (fun _=>rfl) l
attribute [go_sem] Oh Ku
attribute [go_sem] Om qP J6
def d_B (x:Bool):List D:=[.bool x]
theorem aCb (x:Bool):d_B x=[.bool x]:=by rw [d_B]
def g_B:List D->Bool
 | [.bool a]=>a
 | _=>default
theorem aBQ (x:Bool):g_B (d_B x)=x:=by rfl
theorem auP (l:List (Bool)):aG g_B (ah 1 d_B l)=l:=bU _ _ _ _ aBQ
theorem aBX (l:List (Bool)):(ah 1 d_B l).flat=True:=lY (fun _=>rfl)
attribute [go_sem] aCb g_B auP aBX
abbrev vT:=List (Nat×Int×Int)
def vN (x:Nat×Int×Int):List D:=[.fn x.1,.int .i64 x.2.1,.int .i64 x.2.2]
theorem akH (x:Nat×Int×Int):vN x=[.fn x.1,.int .i64 x.2.1,.int .i64 x.2.2]:=by rw [vN]
def WB:List D->Nat×Int×Int
 | [.fn a,.int _ b,.int _ c]=>(a,b,c)
 | _=>default
theorem aku (x:Nat×Int×Int):WB (vN x)=x:=by rfl
theorem WM (l:List (Nat×Int×Int)):aG WB (ah 3 vN l)=l:=bU _ _ _ _ aku
attribute [go_sem] akH WB WM
def rD (x:vT):List D:=[ah 3 vN x]
theorem acd (x:vT):rD x=[ah 3 vN x]:=by rw [rD]
def BA:List D->vT
 | [a]=>aG WB a
 | _=>default
theorem abI (x:vT):BA (rD x)=x:=by simp only [BA,rD,WM]
theorem YK (l:List (vT)):aG BA (ah 1 rD l)=l:=bU _ _ _ _ abI
theorem ab6 {l:List (vT)} {d:D} (h:jy 3 vN l d):oL d (ah 1 rD l)=True:=iC (fun _=>rfl) h
theorem YT (l:List (vT)):jy 3 vN l (ah 1 rD l)=True:=iF (fun _=>rfl) l
attribute [go_sem] ab6 YT
attribute [go_sem] acd BA YK
def d_H (x:Hl):List D:=[hE x]
theorem aB' (x:Hl):d_H x=[hE x]:=by rw [d_H]
def g_H:List D->Hl
 | [a]=>hD a
 | _=>default
theorem aBO (x:Hl):g_H (d_H x)=x:=by simp only [g_H,d_H,akn]
theorem auN (l:List (Hl)):aG g_H (ah 1 d_H l)=l:=bU _ _ _ _ aBO
attribute [go_sem] aB' g_H auN
abbrev bD:=List (Int×Int×Int×Int)
def dh (x:Int×Int×Int×Int):List D:=[.int .i64 x.1,.int .i64 x.2.1,.int .i64 x.2.2.1,.int .i64 x.2.2.2]
theorem WI (x:Int×Int×Int×Int):dh x=[.int .i64 x.1,.int .i64 x.2.1,.int .i64 x.2.2.1,.int .i64 x.2.2.2]:=by rw [dh]
def jD:List D->Int×Int×Int×Int
 | [.int _ a,.int _ b,.int _ c,.int _ d]=>(a,b,c,d)
 | _=>default
theorem Wy (x:Int×Int×Int×Int):jD (dh x)=x:=by rfl
theorem Ov (l:List (Int×Int×Int×Int)):aG jD (ah 4 dh l)=l:=bU _ _ _ _ Wy
theorem afE (l:List (Int×Int×Int×Int)):(ah 4 dh l).flat=True:=lY (fun _=>rfl)
attribute [go_sem] WI jD Ov afE
theorem afO (o:Option (Int×Int×Int×Int)):decP jD (.pt o.isSome [.int .i64 (o.getD default).1,.int .i64 (o.getD default).2.1,.int .i64 (o.getD default).2.2.1,.int .i64 (o.getD default).2.2.2])=o:=by have:=qw Wy o; rwa [WI] at this
attribute [go_sem] afO
def og (x:bD):List D:=[ah 4 dh x]
theorem YE (x:bD):og x=[ah 4 dh x]:=by rw [og]
def yg:List D->bD
 | [a]=>aG jD a
 | _=>default
theorem Yf (x:bD):yg (og x)=x:=by simp only [yg,og,Ov]
theorem Rz (l:List (bD)):aG yg (ah 1 og l)=l:=bU _ _ _ _ Yf
theorem YB {l:List (bD)} {d:D} (h:jy 4 dh l d):oL d (ah 1 og l)=True:=iC (fun _=>rfl) h
theorem RQ (l:List (bD)):jy 4 dh l (ah 1 og l)=True:=iF (fun _=>rfl) l
attribute [go_sem] YB RQ
attribute [go_sem] YE yg Rz
abbrev aY:=List (Int×Int×Int×Int×Int)
def bT (x:Int×Int×Int×Int×Int):List D:=[.int .i64 x.1,.int .i64 x.2.1,.int .i64 x.2.2.1,.int .i64 x.2.2.2.1,.int .i64 x.2.2.2.2]
theorem Oo (x:Int×Int×Int×Int×Int):bT x=[.int .i64 x.1,.int .i64 x.2.1,.int .i64 x.2.2.1,.int .i64 x.2.2.2.1,.int .i64 x.2.2.2.2]:=by rw [bT]
def gW:List D->Int×Int×Int×Int×Int
 | [.int _ a,.int _ b,.int _ c,.int _ d,.int _ e]=>(a,b,c,d,e)
 | _=>default
theorem NK (x:Int×Int×Int×Int×Int):gW (bT x)=x:=by rfl
theorem Hq (l:List (Int×Int×Int×Int×Int)):aG gW (ah 5 bT l)=l:=bU _ _ _ _ NK
theorem abM (l:List (Int×Int×Int×Int×Int)):(ah 5 bT l).flat=True:=lY (fun _=>rfl)
attribute [go_sem] Oo gW Hq abM
theorem acg (o:Option (Int×Int×Int×Int×Int)):decP gW (.pt o.isSome [.int .i64 (o.getD default).1,.int .i64 (o.getD default).2.1,.int .i64 (o.getD default).2.2.1,.int .i64 (o.getD default).2.2.2.1,.int .i64 (o.getD default).2.2.2.2])=o:=by have:=qw NK o; rwa [Oo] at this
attribute [go_sem] acg
def lI (x:aY):List D:=[ah 5 bT x]
theorem Rw (x:aY):lI x=[ah 5 bT x]:=by rw [lI]
def uD:List D->aY
 | [a]=>aG gW a
 | _=>default
theorem QU (x:aY):uD (lI x)=x:=by simp only [uD,lI,Hq]
theorem Oq (l:List (aY)):aG uD (ah 1 lI l)=l:=bU _ _ _ _ QU
theorem Rt {l:List (aY)} {d:D} (h:jy 5 bT l d):oL d (ah 1 lI l)=True:=iC (fun _=>rfl) h
theorem OA (l:List (aY)):jy 5 bT l (ah 1 lI l)=True:=iF (fun _=>rfl) l
attribute [go_sem] Rt OA
attribute [go_sem] Rw uD Oq
abbrev bC:=List (Int×Int×Int)
def dn (x:Int×Int×Int):List D:=[.int .i64 x.1,.int .i64 x.2.1,.int .i64 x.2.2]
theorem ace (x:Int×Int×Int):dn x=[.int .i64 x.1,.int .i64 x.2.1,.int .i64 x.2.2]:=by rw [dn]
def jE:List D->Int×Int×Int
 | [.int _ a,.int _ b,.int _ c]=>(a,b,c)
 | _=>default
theorem abJ (x:Int×Int×Int):jE (dn x)=x:=by rfl
theorem WL (l:List (Int×Int×Int)):aG jE (ah 3 dn l)=l:=bU _ _ _ _ abJ
theorem akv (l:List (Int×Int×Int)):(ah 3 dn l).flat=True:=lY (fun _=>rfl)
attribute [go_sem] ace jE WL akv
theorem akI (o:Option (Int×Int×Int)):decP jE (.pt o.isSome [.int .i64 (o.getD default).1,.int .i64 (o.getD default).2.1,.int .i64 (o.getD default).2.2])=o:=by have:=qw abJ o; rwa [ace] at this
attribute [go_sem] akI
def qZ (x:bC):List D:=[ah 3 dn x]
theorem ab9 (x:bC):qZ x=[ah 3 dn x]:=by rw [qZ]
def Bz:List D->bC
 | [a]=>aG jE a
 | _=>default
theorem abH (x:bC):Bz (qZ x)=x:=by simp only [Bz,qZ,WL]
theorem YJ (l:List (bC)):aG Bz (ah 1 qZ l)=l:=bU _ _ _ _ abH
theorem ab5 {l:List (bC)} {d:D} (h:jy 3 dn l d):oL d (ah 1 qZ l)=True:=iC (fun _=>rfl) h
theorem YS (l:List (bC)):jy 3 dn l (ah 1 qZ l)=True:=iF (fun _=>rfl) l
attribute [go_sem] ab5 YS
attribute [go_sem] ab9 Bz YJ
abbrev bF:=List (Int×(List (Int×Int))×Int)
def bH (x:Int×au×Int):List D:=[.int .i64 x.1,ah 2 aT x.2.1,.int .i64 x.2.2]
theorem Hg (x:Int×au×Int):bH x=[.int .i64 x.1,ah 2 aT x.2.1,.int .i64 x.2.2]:=by rw [bH]
def nU:List D->Int×au×Int
 | [.int _ a,b,.int _ c]=>(a,aG bY b,c)
 | _=>default
theorem GU (x:Int×au×Int):nU (bH x)=x:=by simp only [nU,bH,J7]
theorem Ew (l:List (Int×au×Int)):aG nU (ah 3 bH l)=l:=bU _ _ _ _ GU
attribute [go_sem] Hg nU Ew
theorem YH (o:Option (Int×au×Int)):decP nU (.pt o.isSome [.int .i64 (o.getD default).1,ah 2 aT (o.getD default).2.1,.int .i64 (o.getD default).2.2])=o:=by have:=qw GU o; rwa [Hg] at this
attribute [go_sem] YH
def kL (x:bF):List D:=[ah 3 bH x]
theorem Ol (x:bF):kL x=[ah 3 bH x]:=by rw [kL]
def qO:List D->bF
 | [a]=>aG nU a
 | _=>default
theorem NI (x:bF):qO (kL x)=x:=by simp only [qO,kL,Ew]
theorem J5 (l:List (bF)):aG qO (ah 1 kL l)=l:=bU _ _ _ _ NI
theorem Og {l:List (bF)} {d:D} (h:jy 3 bH l d):oL d (ah 1 kL l)=True:=iC (fun _=>rfl) h
theorem Kt (l:List (bF)):jy 3 bH l (ah 1 kL l)=True:=iF (fun _=>rfl) l
attribute [go_sem] Og Kt
attribute [go_sem] Ol qO J5
abbrev dH:=List ((List (Int×Int))×Int×Int)
def fO (x:au×Int×Int):List D:=[ah 2 aT x.1,.int .i64 x.2.1,.int .i64 x.2.2]
theorem YF (x:au×Int×Int):fO x=[ah 2 aT x.1,.int .i64 x.2.1,.int .i64 x.2.2]:=by rw [fO]
def lX:List D->au×Int×Int
 | [a,.int _ b,.int _ c]=>(aG bY a,b,c)
 | _=>default
theorem Yg (x:au×Int×Int):lX (fO x)=x:=by simp only [lX,fO,J7]
theorem Et (l:List (au×Int×Int)):aG lX (ah 3 fO l)=l:=bU _ _ _ _ Yg
attribute [go_sem] YF lX Et
def kJ (x:dH):List D:=[ah 3 fO x]
theorem Oi (x:dH):kJ x=[ah 3 fO x]:=by rw [kJ]
def qM:List D->dH
 | [a]=>aG lX a
 | _=>default
theorem NG (x:dH):qM (kJ x)=x:=by simp only [qM,kJ,Et]
theorem J3 (l:List (dH)):aG qM (ah 1 kJ l)=l:=bU _ _ _ _ NG
theorem Oc {l:List (dH)} {d:D} (h:jy 3 fO l d):oL d (ah 1 kJ l)=True:=iC (fun _=>rfl) h
theorem Kq (l:List (dH)):jy 3 fO l (ah 1 kJ l)=True:=iF (fun _=>rfl) l
attribute [go_sem] Oc Kq
attribute [go_sem] Oi qM J3
abbrev iU:=List ((List (Int))×(List (Int)))
def iT (x:bn×bn):List D:=[ah 1 cu x.1,ah 1 cu x.2]
theorem YG (x:bn×bn):iT x=[ah 1 cu x.1,ah 1 cu x.2]:=by rw [iT]
def tH:List D->bn×bn
 | [a,b]=>(aG jM a,aG jM b)
 | _=>default
theorem Yh (x:bn×bn):tH (iT x)=x:=by simp only [tH,iT,Ox,Ox]
theorem Eu (l:List (bn×bn)):aG tH (ah 2 iT l)=l:=bU _ _ _ _ Yh
attribute [go_sem] YG tH Eu
def kK (x:iU):List D:=[ah 2 iT x]
theorem Oj (x:iU):kK x=[ah 2 iT x]:=by rw [kK]
def qN:List D->iU
 | [a]=>aG tH a
 | _=>default
theorem NH (x:iU):qN (kK x)=x:=by simp only [qN,kK,Eu]
theorem J4 (l:List (iU)):aG qN (ah 1 kK l)=l:=bU _ _ _ _ NH
theorem Oe {l:List (iU)} {d:D} (h:jy 2 iT l d):oL d (ah 1 kK l)=True:=iC (fun _=>rfl) h
theorem Kr (l:List (iU)):jy 2 iT l (ah 1 kK l)=True:=iF (fun _=>rfl) l
attribute [go_sem] Oe Kr
attribute [go_sem] Oj qN J4
abbrev L_S:=List (ByteArray)
def d_S (x:ByteArray):List D:=[.str x]
theorem aB8 (x:ByteArray):d_S x=[.str x]:=by rw [d_S]
def g_S:List D->ByteArray
 | [.str a]=>a
 | _=>default
theorem aBM (x:ByteArray):g_S (d_S x)=x:=by rfl
theorem ahq (l:List (ByteArray)):aG g_S (ah 1 d_S l)=l:=bU _ _ _ _ aBM
theorem aBU (l:List (ByteArray)):(ah 1 d_S l).flat=True:=lY (fun _=>rfl)
attribute [go_sem] aB8 g_S ahq aBU
def d_E (x:Bool):List D:=[.err x]
theorem aCa (x:Bool):d_E x=[.err x]:=by rw [d_E]
def g_E:List D->Bool
 | [.err a]=>a
 | _=>default
theorem aBP (x:Bool):g_E (d_E x)=x:=by rfl
theorem auO (l:List (Bool)):aG g_E (ah 1 d_E l)=l:=bU _ _ _ _ aBP
theorem aBW (l:List (Bool)):(ah 1 d_E l).flat=True:=lY (fun _=>rfl)
attribute [go_sem] aCa g_E auO aBW
def Ey (x:L_S):List D:=[ah 1 d_S x]
theorem akF (x:L_S):Ey x=[ah 1 d_S x]:=by rw [Ey]
def WA:List D->L_S
 | [a]=>aG g_S a
 | _=>default
theorem aks (x:L_S):WA (Ey x)=x:=by simp only [WA,Ey,ahq]
theorem afP (l:List (L_S)):aG WA (ah 1 Ey l)=l:=bU _ _ _ _ aks
theorem akC {l:List (L_S)} {d:D} (h:jy 1 d_S l d):oL d (ah 1 Ey l)=True:=iC (fun _=>rfl) h
theorem afY (l:List (L_S)):jy 1 d_S l (ah 1 Ey l)=True:=iF (fun _=>rfl) l
attribute [go_sem] akC afY
attribute [go_sem] akF WA afP
abbrev wW:=List ((List (Int))×Int)
def rC (x:bn×Int):List D:=[ah 1 cu x.1,.int .i64 x.2]
theorem afN (x:bn×Int):rC x=[ah 1 cu x.1,.int .i64 x.2]:=by rw [rC]
def DZ:List D->bn×Int
 | [a,.int _ b]=>(aG jM a,b)
 | _=>default
theorem afD (x:bn×Int):DZ (rC x)=x:=by simp only [DZ,rC,Ox]
theorem Ou (l:List (bn×Int)):aG DZ (ah 2 rC l)=l:=bU _ _ _ _ afD
attribute [go_sem] afN DZ Ou
def nZ (x:wW):List D:=[ah 2 rC x]
theorem YD (x:wW):nZ x=[ah 2 rC x]:=by rw [nZ]
def yc:List D->wW
 | [a]=>aG DZ a
 | _=>default
theorem Ye (x:wW):yc (nZ x)=x:=by simp only [yc,nZ,Ou]
theorem Ry (l:List (wW)):aG yc (ah 1 nZ l)=l:=bU _ _ _ _ Ye
theorem YA {l:List (wW)} {d:D} (h:jy 2 rC l d):oL d (ah 1 nZ l)=True:=iC (fun _=>rfl) h
theorem RN (l:List (wW)):jy 2 rC l (ah 1 nZ l)=True:=iF (fun _=>rfl) l
attribute [go_sem] YA RN
attribute [go_sem] YD yc Ry
def qY (x:EX):List D:=[ah 1 tV x]
theorem ab8 (x:EX):qY x=[ah 1 tV x]:=by rw [qY]
def Bv:List D->EX
 | [a]=>aG NP a
 | _=>default
theorem abG (x:EX):Bv (qY x)=x:=by simp only [Bv,qY,WJ]
theorem YI (l:List (EX)):aG Bv (ah 1 qY l)=l:=bU _ _ _ _ abG
theorem ab4 {l:List (EX)} {d:D} (h:jy 1 tV l d):oL d (ah 1 qY l)=True:=iC (fun _=>rfl) h
theorem YR (l:List (EX)):jy 1 tV l (ah 1 qY l)=True:=iF (fun _=>rfl) l
attribute [go_sem] ab4 YR
attribute [go_sem] ab8 Bv YI
attribute [go_sem] wF Option.isSome_none
theorem w0:(IntKind.i64.wrap (0+1))=1:=by first | rfl | decide | simp
theorem w1:(decide ((0:Int)>0))=false:=by first | rfl | decide | simp
theorem w2:(decide ((1:Int)<=60))=true:=by first | rfl | decide | simp
theorem w3:((((0:Int)) == 0))=true:=by first | rfl | decide | simp
theorem w4:((((0:Int)) != 0))=false:=by first | rfl | decide | simp
theorem w5:((((0:Int)) == 200))=false:=by first | rfl | decide | simp
theorem w6:(IntKind.i64.wrap (0+2))=2:=by first | rfl | decide | simp
theorem w7:(IntKind.i64.wrap (1+1))=2:=by first | rfl | decide | simp
theorem w8:(IntKind.i64.wrap (1+2))=3:=by first | rfl | decide | simp
theorem w9:((((8:Int)) != 0))=true:=by first | rfl | decide | simp
theorem w10:(decide ((0:Int)<4))=true:=by first | rfl | decide | simp
theorem w11:(decide ((1:Int)<4))=true:=by first | rfl | decide | simp
theorem w12:(((1:Int)=0\/(0:Int)<1))=True:=by first | rfl | decide | simp
theorem w13:(decide ((2:Int)<4))=true:=by first | rfl | decide | simp
theorem w14:(((2:Int)=0\/(0:Int)<2))=True:=by first | rfl | decide | simp
theorem w15:(IntKind.i64.wrap (2+1))=3:=by first | rfl | decide | simp
theorem w16:(decide ((3:Int)<4))=true:=by first | rfl | decide | simp
theorem w17:(((3:Int)=0\/(0:Int)<3))=True:=by first | rfl | decide | simp
theorem w18:(IntKind.i64.wrap (3+1))=4:=by first | rfl | decide | simp
theorem w19:(decide ((4:Int)<4))=false:=by first | rfl | decide | simp
theorem w20:(decide ((0:Int)>=0))=true:=by first | rfl | decide | simp
theorem w21:(decide ((-1:Int)>=0))=false:=by first | rfl | decide | simp
theorem w22:(((3:Nat):Int))=3:=by first | rfl | decide | simp
theorem w23:(decide ((0:Int)<3))=true:=by first | rfl | decide | simp
theorem w24:(decide ((1:Int)<3))=true:=by first | rfl | decide | simp
theorem w25:(decide ((2:Int)<3))=true:=by first | rfl | decide | simp
theorem w26:(decide ((3:Int)<3))=false:=by first | rfl | decide | simp
theorem w27:(decide ((0:Int)<7))=true:=by first | rfl | decide | simp
theorem w28:(decide ((1:Int)<7))=true:=by first | rfl | decide | simp
theorem w29:(decide ((2:Int)<7))=true:=by first | rfl | decide | simp
theorem w30:(decide ((3:Int)<7))=true:=by first | rfl | decide | simp
theorem w31:(decide ((4:Int)<7))=true:=by first | rfl | decide | simp
theorem w32:(((4:Int)=0\/(0:Int)<4))=True:=by first | rfl | decide | simp
theorem w33:(IntKind.i64.wrap (4+1))=5:=by first | rfl | decide | simp
theorem w34:(decide ((5:Int)<7))=true:=by first | rfl | decide | simp
theorem w35:(((5:Int)=0\/(0:Int)<5))=True:=by first | rfl | decide | simp
theorem w36:(IntKind.i64.wrap (5+1))=6:=by first | rfl | decide | simp
theorem w37:(decide ((6:Int)<7))=true:=by first | rfl | decide | simp
theorem w38:(((6:Int)=0\/(0:Int)<6))=True:=by first | rfl | decide | simp
theorem w39:(IntKind.i64.wrap (6+1))=7:=by first | rfl | decide | simp
theorem w40:(decide ((7:Int)<7))=false:=by first | rfl | decide | simp
theorem w41:(decide ((0:Int)<201))=true:=by first | rfl | decide | simp
theorem w42:(((#[117,110,116,105,108,32,54,53,48,32,52,48,48,32,53,59,113,117,101,110,99,104,32,49,32,51]:Array UInt8).size:Int))=26:=by first | rfl | decide | simp
theorem w43:(decide ((26:Int)>2000))=false:=by first | rfl | decide | simp
theorem w44:(decide ((5:Int)<0))=false:=by first | rfl | decide | simp
theorem w45:((⟨#[117,110,116,105,108,32,54,53,48,32,52,48,48,32,53,59,113,117,101,110,99,104,32,49,32,51]⟩:ByteArray).extract 0 5)=(⟨#[117,110,116,105,108]⟩:ByteArray):=by first | rfl | decide | simp
theorem w46:((⟨#[117,110,116,105,108,32,54,53,48,32,52,48,48,32,53,59,113,117,101,110,99,104,32,49,32,51]⟩:ByteArray).extract 5 26)=(⟨#[32,54,53,48,32,52,48,48,32,53,59,113,117,101,110,99,104,32,49,32,51]⟩:ByteArray):=by first | rfl | decide | simp
theorem w47:(decide ((0:Int)<6))=true:=by first | rfl | decide | simp
theorem w48:(decide ((⟨#[117,110,116,105,108]⟩:ByteArray)=(⟨#[104,101,97,116]⟩:ByteArray)))=false:=by first | rfl | decide | simp
theorem w49:(decide ((1:Int)<6))=true:=by first | rfl | decide | simp
theorem w50:(decide ((⟨#[117,110,116,105,108]⟩:ByteArray)=(⟨#[100,119,101,108,108]⟩:ByteArray)))=false:=by first | rfl | decide | simp
theorem w51:(decide ((2:Int)<6))=true:=by first | rfl | decide | simp
theorem w52:(decide ((⟨#[117,110,116,105,108]⟩:ByteArray)=(⟨#[113,117,101,110,99,104]⟩:ByteArray)))=false:=by first | rfl | decide | simp
theorem w53:(decide ((3:Int)<6))=true:=by first | rfl | decide | simp
theorem w54:(decide ((⟨#[117,110,116,105,108]⟩:ByteArray)=(⟨#[117,110,116,105,108]⟩:ByteArray)))=true:=by first | rfl | decide | simp
theorem w55:(decide ((3:Int)<0))=false:=by first | rfl | decide | simp
theorem w56:(((#[54,53,48,32,52,48,48,32,53,59,113,117,101,110,99,104,32,49,32,51]:Array UInt8).size:Int))=20:=by first | rfl | decide | simp
theorem w57:((⟨#[54,53,48,32,52,48,48,32,53,59,113,117,101,110,99,104,32,49,32,51]⟩:ByteArray).extract 0 3)=(⟨#[54,53,48]⟩:ByteArray):=by first | rfl | decide | simp
theorem w58:((⟨#[54,53,48,32,52,48,48,32,53,59,113,117,101,110,99,104,32,49,32,51]⟩:ByteArray).extract 3 20)=(⟨#[32,52,48,48,32,53,59,113,117,101,110,99,104,32,49,32,51]⟩:ByteArray):=by first | rfl | decide | simp
theorem w59:(((#[52,48,48,32,53,59,113,117,101,110,99,104,32,49,32,51]:Array UInt8).size:Int))=16:=by first | rfl | decide | simp
theorem w60:((⟨#[52,48,48,32,53,59,113,117,101,110,99,104,32,49,32,51]⟩:ByteArray).extract 0 3)=(⟨#[52,48,48]⟩:ByteArray):=by first | rfl | decide | simp
theorem w61:((⟨#[52,48,48,32,53,59,113,117,101,110,99,104,32,49,32,51]⟩:ByteArray).extract 3 16)=(⟨#[32,53,59,113,117,101,110,99,104,32,49,32,51]⟩:ByteArray):=by first | rfl | decide | simp
theorem w62:(decide ((1:Int)<0))=false:=by first | rfl | decide | simp
theorem w63:(((#[53,59,113,117,101,110,99,104,32,49,32,51]:Array UInt8).size:Int))=12:=by first | rfl | decide | simp
theorem w64:((⟨#[53,59,113,117,101,110,99,104,32,49,32,51]⟩:ByteArray).extract 0 1)=(⟨#[53]⟩:ByteArray):=by first | rfl | decide | simp
theorem w65:((⟨#[53,59,113,117,101,110,99,104,32,49,32,51]⟩:ByteArray).extract 1 12)=(⟨#[59,113,117,101,110,99,104,32,49,32,51]⟩:ByteArray):=by first | rfl | decide | simp
theorem w66:((((3:Int)) != 5))=true:=by first | rfl | decide | simp
theorem w67:(decide ((6:Int)<0))=false:=by first | rfl | decide | simp
theorem w68:(((#[113,117,101,110,99,104,32,49,32,51]:Array UInt8).size:Int))=10:=by first | rfl | decide | simp
theorem w69:((⟨#[113,117,101,110,99,104,32,49,32,51]⟩:ByteArray).extract 0 6)=(⟨#[113,117,101,110,99,104]⟩:ByteArray):=by first | rfl | decide | simp
theorem w70:((⟨#[113,117,101,110,99,104,32,49,32,51]⟩:ByteArray).extract 6 10)=(⟨#[32,49,32,51]⟩:ByteArray):=by first | rfl | decide | simp
theorem w71:(decide ((⟨#[113,117,101,110,99,104]⟩:ByteArray)=(⟨#[104,101,97,116]⟩:ByteArray)))=false:=by first | rfl | decide | simp
theorem w72:(decide ((⟨#[113,117,101,110,99,104]⟩:ByteArray)=(⟨#[100,119,101,108,108]⟩:ByteArray)))=false:=by first | rfl | decide | simp
theorem w73:(decide ((⟨#[113,117,101,110,99,104]⟩:ByteArray)=(⟨#[113,117,101,110,99,104]⟩:ByteArray)))=true:=by first | rfl | decide | simp
theorem w74:(((2:Nat):Int))=2:=by first | rfl | decide | simp
theorem w75:(decide ((0:Int)<2))=true:=by first | rfl | decide | simp
theorem w76:(((#[49,32,51]:Array UInt8).size:Int))=3:=by first | rfl | decide | simp
theorem w77:((⟨#[49,32,51]⟩:ByteArray).extract 0 1)=(⟨#[49]⟩:ByteArray):=by first | rfl | decide | simp
theorem w78:((⟨#[49,32,51]⟩:ByteArray).extract 1 3)=(⟨#[32,51]⟩:ByteArray):=by first | rfl | decide | simp
theorem w79:(decide ((1:Int)<2))=true:=by first | rfl | decide | simp
theorem w80:(decide ((-1:Int)<0))=true:=by first | rfl | decide | simp
theorem w81:(((#[51]:Array UInt8).size:Int))=1:=by first | rfl | decide | simp
theorem w82:((⟨#[51]⟩:ByteArray).extract 0 1)=(⟨#[51]⟩:ByteArray):=by first | rfl | decide | simp
theorem w83:((⟨#[51]⟩:ByteArray).extract 1 1)=(⟨#[]⟩:ByteArray):=by first | rfl | decide | simp
theorem w84:(decide ((2:Int)<2))=false:=by first | rfl | decide | simp
theorem w85:((((2:Int)) != 5))=true:=by first | rfl | decide | simp
theorem w86:(decide ((⟨#[]⟩:ByteArray)=(⟨#[]⟩:ByteArray)))=true:=by first | rfl | decide | simp
theorem w87:((((15:Int)) != 0))=true:=by first | rfl | decide | simp
theorem w88:((((3:Int)) != 0))=true:=by first | rfl | decide | simp
theorem w89:((((2:Int)) != 0))=true:=by first | rfl | decide | simp
theorem w90:((((16:Int)) != 0))=true:=by first | rfl | decide | simp
theorem w91:(IntKind.i64.wrap (1 - 1))=0:=by first | rfl | decide | simp
attribute [go_sem] w0 w1 w2 w3 w4 w5 w6 w7 w8 w9 w10 w11 w12 w13 w14 w15 w16 w17 w18 w19 w20 w21 w22 w23 w24 w25 w26 w27 w28 w29 w30 w31 w32 w33 w34 w35 w36 w37 w38 w39 w40 w41 w42 w43 w44 w45 w46 w47 w48 w49 w50 w51 w52 w53 w54 w55 w56 w57 w58 w59 w60 w61 w62 w63 w64 w65 w66 w67 w68 w69 w70 w71 w72 w73 w74 w75 w76 w77 w78 w79 w80 w81 w82 w83 w84 w85 w86 w87 w88 w89 w90 w91
section
variable {γ a0 a1 a2 a3 a4 a5 a6 a7 a8 a9 a10 a11 a12 jL kE kC a16 a17 mX pK a20 a21 a22 a23 a24 a25 a26 a27 a28 a29:Type} (x:Unit) (x0:a0) (x1:a1) (x2:a2) (x3:a3) (x4:a4) (x5:a5) (x6:a6) (x7:a7) (x8:a8) (x9:a9) (x10:a10) (x11:a11) (x12:a12) (dO:jL) (x14:kE) (x15:kC) (x16:a16) (x17:a17) (x18:mX) (x19:pK) (x20:a20) (x21:a21) (su:a22) (x23:a23) (x24:a24) (x25:a25) (F5:a26) (x27:a27) (x28:a28) (x29:a29)
def u0 (f:γ):Unit->γ:=fun _=>f
theorem uq0 (f:γ):u0 f x=f:=(rfl)
def u1 (f:a0->γ):a0->γ:=f
theorem oC (f:a0->γ):u1 f x0=f x0:=(rfl)
def u2 (f:a0->a1->γ):a0×a1->γ:=fun (x0,x1)=>f x0 x1
theorem yI (f:a0->a1->γ):u2 f (x0,x1)=f x0 x1:=(rfl)
def u3 (f:a0->a1->a2->γ):a0×a1×a2->γ:=fun (x0,x1,x2)=>f x0 x1 x2
theorem Zd (f:a0->a1->a2->γ):u3 f (x0,x1,x2)=f x0 x1 x2:=(rfl)
def u4 (f:a0->a1->a2->a3->γ):a0×a1×a2×a3->γ:=fun (x0,x1,x2,x3)=>f x0 x1 x2 x3
theorem uq4 (f:a0->a1->a2->a3->γ):u4 f (x0,x1,x2,x3)=f x0 x1 x2 x3:=(rfl)
def u5 (f:a0->a1->a2->a3->a4->γ):a0×a1×a2×a3×a4->γ:=fun (x0,x1,x2,x3,x4)=>f x0 x1 x2 x3 x4
theorem uq5 (f:a0->a1->a2->a3->a4->γ):u5 f (x0,x1,x2,x3,x4)=f x0 x1 x2 x3 x4:=(rfl)
def u6 (f:a0->a1->a2->a3->a4->a5->γ):a0×a1×a2×a3×a4×a5->γ:=fun (x0,x1,x2,x3,x4,x5)=>f x0 x1 x2 x3 x4 x5
theorem OW (f:a0->a1->a2->a3->a4->a5->γ):u6 f (x0,x1,x2,x3,x4,x5)=f x0 x1 x2 x3 x4 x5:=(rfl)
def u7 (f:a0->a1->a2->a3->a4->a5->a6->γ):a0×a1×a2×a3×a4×a5×a6->γ:=fun (x0,x1,x2,x3,x4,x5,x6)=>f x0 x1 x2 x3 x4 x5 x6
theorem KO (f:a0->a1->a2->a3->a4->a5->a6->γ):u7 f (x0,x1,x2,x3,x4,x5,x6)=f x0 x1 x2 x3 x4 x5 x6:=(rfl)
def u8 (f:a0->a1->a2->a3->a4->a5->a6->a7->γ):a0×a1×a2×a3×a4×a5×a6×a7->γ:=fun (x0,x1,x2,x3,x4,x5,x6,x7)=>f x0 x1 x2 x3 x4 x5 x6 x7
theorem uq8 (f:a0->a1->a2->a3->a4->a5->a6->a7->γ):u8 f (x0,x1,x2,x3,x4,x5,x6,x7)=f x0 x1 x2 x3 x4 x5 x6 x7:=(rfl)
def u9 (f:a0->a1->a2->a3->a4->a5->a6->a7->a8->γ):a0×a1×a2×a3×a4×a5×a6×a7×a8->γ:=fun (x0,x1,x2,x3,x4,x5,x6,x7,x8)=>f x0 x1 x2 x3 x4 x5 x6 x7 x8
theorem OV (f:a0->a1->a2->a3->a4->a5->a6->a7->a8->γ):u9 f (x0,x1,x2,x3,x4,x5,x6,x7,x8)=f x0 x1 x2 x3 x4 x5 x6 x7 x8:=(rfl)
def u10 (f:a0->a1->a2->a3->a4->a5->a6->a7->a8->a9->γ):a0×a1×a2×a3×a4×a5×a6×a7×a8×a9->γ:=fun (x0,x1,x2,x3,x4,x5,x6,x7,x8,x9)=>f x0 x1 x2 x3 x4 x5 x6 x7 x8 x9
theorem KY (f:a0->a1->a2->a3->a4->a5->a6->a7->a8->a9->γ):u10 f (x0,x1,x2,x3,x4,x5,x6,x7,x8,x9)=f x0 x1 x2 x3 x4 x5 x6 x7 x8 x9:=(rfl)
def u11 (f:a0->a1->a2->a3->a4->a5->a6->a7->a8->a9->a10->γ):a0×a1×a2×a3×a4×a5×a6×a7×a8×a9×a10->γ:=fun (x0,x1,x2,x3,x4,x5,x6,x7,x8,x9,x10)=>f x0 x1 x2 x3 x4 x5 x6 x7 x8 x9 x10
theorem Zo (f:a0->a1->a2->a3->a4->a5->a6->a7->a8->a9->a10->γ):u11 f (x0,x1,x2,x3,x4,x5,x6,x7,x8,x9,x10)=f x0 x1 x2 x3 x4 x5 x6 x7 x8 x9 x10:=(rfl)
def u12 (f:a0->a1->a2->a3->a4->a5->a6->a7->a8->a9->a10->a11->γ):a0×a1×a2×a3×a4×a5×a6×a7×a8×a9×a10×a11->γ:=fun (x0,x1,x2,x3,x4,x5,x6,x7,x8,x9,x10,x11)=>f x0 x1 x2 x3 x4 x5 x6 x7 x8 x9 x10 x11
theorem ahV (f:a0->a1->a2->a3->a4->a5->a6->a7->a8->a9->a10->a11->γ):u12 f (x0,x1,x2,x3,x4,x5,x6,x7,x8,x9,x10,x11)=f x0 x1 x2 x3 x4 x5 x6 x7 x8 x9 x10 x11:=(rfl)
def u14 (f:a0->a1->a2->a3->a4->a5->a6->a7->a8->a9->a10->a11->a12->jL->γ):a0×a1×a2×a3×a4×a5×a6×a7×a8×a9×a10×a11×a12×jL->γ:=fun (x0,x1,x2,x3,x4,x5,x6,x7,x8,x9,x10,x11,x12,dO)=>f x0 x1 x2 x3 x4 x5 x6 x7 x8 x9 x10 x11 x12 dO
theorem ahU (f:a0->a1->a2->a3->a4->a5->a6->a7->a8->a9->a10->a11->a12->jL->γ):u14 f (x0,x1,x2,x3,x4,x5,x6,x7,x8,x9,x10,x11,x12,dO)=f x0 x1 x2 x3 x4 x5 x6 x7 x8 x9 x10 x11 x12 dO:=(rfl)
def u16 (f:a0->a1->a2->a3->a4->a5->a6->a7->a8->a9->a10->a11->a12->jL->kE->kC->γ):a0×a1×a2×a3×a4×a5×a6×a7×a8×a9×a10×a11×a12×jL×kE×kC->γ:=fun (x0,x1,x2,x3,x4,x5,x6,x7,x8,x9,x10,x11,x12,dO,x14,x15)=>f x0 x1 x2 x3 x4 x5 x6 x7 x8 x9 x10 x11 x12 dO x14 x15
theorem al6 (f:a0->a1->a2->a3->a4->a5->a6->a7->a8->a9->a10->a11->a12->jL->kE->kC->γ):u16 f (x0,x1,x2,x3,x4,x5,x6,x7,x8,x9,x10,x11,x12,dO,x14,x15)=f x0 x1 x2 x3 x4 x5 x6 x7 x8 x9 x10 x11 x12 dO x14 x15:=(rfl)
def u17 (f:a0->a1->a2->a3->a4->a5->a6->a7->a8->a9->a10->a11->a12->jL->kE->kC->a16->γ):a0×a1×a2×a3×a4×a5×a6×a7×a8×a9×a10×a11×a12×jL×kE×kC×a16->γ:=fun (x0,x1,x2,x3,x4,x5,x6,x7,x8,x9,x10,x11,x12,dO,x14,x15,x16)=>f x0 x1 x2 x3 x4 x5 x6 x7 x8 x9 x10 x11 x12 dO x14 x15 x16
theorem al5 (f:a0->a1->a2->a3->a4->a5->a6->a7->a8->a9->a10->a11->a12->jL->kE->kC->a16->γ):u17 f (x0,x1,x2,x3,x4,x5,x6,x7,x8,x9,x10,x11,x12,dO,x14,x15,x16)=f x0 x1 x2 x3 x4 x5 x6 x7 x8 x9 x10 x11 x12 dO x14 x15 x16:=(rfl)
def u18 (f:a0->a1->a2->a3->a4->a5->a6->a7->a8->a9->a10->a11->a12->jL->kE->kC->a16->a17->γ):a0×a1×a2×a3×a4×a5×a6×a7×a8×a9×a10×a11×a12×jL×kE×kC×a16×a17->γ:=fun (x0,x1,x2,x3,x4,x5,x6,x7,x8,x9,x10,x11,x12,dO,x14,x15,x16,x17)=>f x0 x1 x2 x3 x4 x5 x6 x7 x8 x9 x10 x11 x12 dO x14 x15 x16 x17
theorem al4 (f:a0->a1->a2->a3->a4->a5->a6->a7->a8->a9->a10->a11->a12->jL->kE->kC->a16->a17->γ):u18 f (x0,x1,x2,x3,x4,x5,x6,x7,x8,x9,x10,x11,x12,dO,x14,x15,x16,x17)=f x0 x1 x2 x3 x4 x5 x6 x7 x8 x9 x10 x11 x12 dO x14 x15 x16 x17:=(rfl)
def u19 (f:a0->a1->a2->a3->a4->a5->a6->a7->a8->a9->a10->a11->a12->jL->kE->kC->a16->a17->mX->γ):a0×a1×a2×a3×a4×a5×a6×a7×a8×a9×a10×a11×a12×jL×kE×kC×a16×a17×mX->γ:=fun (x0,x1,x2,x3,x4,x5,x6,x7,x8,x9,x10,x11,x12,dO,x14,x15,x16,x17,x18)=>f x0 x1 x2 x3 x4 x5 x6 x7 x8 x9 x10 x11 x12 dO x14 x15 x16 x17 x18
theorem adz (f:a0->a1->a2->a3->a4->a5->a6->a7->a8->a9->a10->a11->a12->jL->kE->kC->a16->a17->mX->γ):u19 f (x0,x1,x2,x3,x4,x5,x6,x7,x8,x9,x10,x11,x12,dO,x14,x15,x16,x17,x18)=f x0 x1 x2 x3 x4 x5 x6 x7 x8 x9 x10 x11 x12 dO x14 x15 x16 x17 x18:=(rfl)
def u20 (f:a0->a1->a2->a3->a4->a5->a6->a7->a8->a9->a10->a11->a12->jL->kE->kC->a16->a17->mX->pK->γ):a0×a1×a2×a3×a4×a5×a6×a7×a8×a9×a10×a11×a12×jL×kE×kC×a16×a17×mX×pK->γ:=fun (x0,x1,x2,x3,x4,x5,x6,x7,x8,x9,x10,x11,x12,dO,x14,x15,x16,x17,x18,x19)=>f x0 x1 x2 x3 x4 x5 x6 x7 x8 x9 x10 x11 x12 dO x14 x15 x16 x17 x18 x19
theorem ahT (f:a0->a1->a2->a3->a4->a5->a6->a7->a8->a9->a10->a11->a12->jL->kE->kC->a16->a17->mX->pK->γ):u20 f (x0,x1,x2,x3,x4,x5,x6,x7,x8,x9,x10,x11,x12,dO,x14,x15,x16,x17,x18,x19)=f x0 x1 x2 x3 x4 x5 x6 x7 x8 x9 x10 x11 x12 dO x14 x15 x16 x17 x18 x19:=(rfl)
def u22 (f:a0->a1->a2->a3->a4->a5->a6->a7->a8->a9->a10->a11->a12->jL->kE->kC->a16->a17->mX->pK->a20->a21->γ):a0×a1×a2×a3×a4×a5×a6×a7×a8×a9×a10×a11×a12×jL×kE×kC×a16×a17×mX×pK×a20×a21->γ:=fun (x0,x1,x2,x3,x4,x5,x6,x7,x8,x9,x10,x11,x12,dO,x14,x15,x16,x17,x18,x19,x20,x21)=>f x0 x1 x2 x3 x4 x5 x6 x7 x8 x9 x10 x11 x12 dO x14 x15 x16 x17 x18 x19 x20 x21
theorem al3 (f:a0->a1->a2->a3->a4->a5->a6->a7->a8->a9->a10->a11->a12->jL->kE->kC->a16->a17->mX->pK->a20->a21->γ):u22 f (x0,x1,x2,x3,x4,x5,x6,x7,x8,x9,x10,x11,x12,dO,x14,x15,x16,x17,x18,x19,x20,x21)=f x0 x1 x2 x3 x4 x5 x6 x7 x8 x9 x10 x11 x12 dO x14 x15 x16 x17 x18 x19 x20 x21:=(rfl)
def u23 (f:a0->a1->a2->a3->a4->a5->a6->a7->a8->a9->a10->a11->a12->jL->kE->kC->a16->a17->mX->pK->a20->a21->a22->γ):a0×a1×a2×a3×a4×a5×a6×a7×a8×a9×a10×a11×a12×jL×kE×kC×a16×a17×mX×pK×a20×a21×a22->γ:=fun (x0,x1,x2,x3,x4,x5,x6,x7,x8,x9,x10,x11,x12,dO,x14,x15,x16,x17,x18,x19,x20,x21,su)=>f x0 x1 x2 x3 x4 x5 x6 x7 x8 x9 x10 x11 x12 dO x14 x15 x16 x17 x18 x19 x20 x21 su
theorem ady (f:a0->a1->a2->a3->a4->a5->a6->a7->a8->a9->a10->a11->a12->jL->kE->kC->a16->a17->mX->pK->a20->a21->a22->γ):u23 f (x0,x1,x2,x3,x4,x5,x6,x7,x8,x9,x10,x11,x12,dO,x14,x15,x16,x17,x18,x19,x20,x21,su)=f x0 x1 x2 x3 x4 x5 x6 x7 x8 x9 x10 x11 x12 dO x14 x15 x16 x17 x18 x19 x20 x21 su:=(rfl)
def u24 (f:a0->a1->a2->a3->a4->a5->a6->a7->a8->a9->a10->a11->a12->jL->kE->kC->a16->a17->mX->pK->a20->a21->a22->a23->γ):a0×a1×a2×a3×a4×a5×a6×a7×a8×a9×a10×a11×a12×jL×kE×kC×a16×a17×mX×pK×a20×a21×a22×a23->γ:=fun (x0,x1,x2,x3,x4,x5,x6,x7,x8,x9,x10,x11,x12,dO,x14,x15,x16,x17,x18,x19,x20,x21,su,x23)=>f x0 x1 x2 x3 x4 x5 x6 x7 x8 x9 x10 x11 x12 dO x14 x15 x16 x17 x18 x19 x20 x21 su x23
theorem al2 (f:a0->a1->a2->a3->a4->a5->a6->a7->a8->a9->a10->a11->a12->jL->kE->kC->a16->a17->mX->pK->a20->a21->a22->a23->γ):u24 f (x0,x1,x2,x3,x4,x5,x6,x7,x8,x9,x10,x11,x12,dO,x14,x15,x16,x17,x18,x19,x20,x21,su,x23)=f x0 x1 x2 x3 x4 x5 x6 x7 x8 x9 x10 x11 x12 dO x14 x15 x16 x17 x18 x19 x20 x21 su x23:=(rfl)
def u28 (f:a0->a1->a2->a3->a4->a5->a6->a7->a8->a9->a10->a11->a12->jL->kE->kC->a16->a17->mX->pK->a20->a21->a22->a23->a24->a25->a26->a27->γ):a0×a1×a2×a3×a4×a5×a6×a7×a8×a9×a10×a11×a12×jL×kE×kC×a16×a17×mX×pK×a20×a21×a22×a23×a24×a25×a26×a27->γ:=fun (x0,x1,x2,x3,x4,x5,x6,x7,x8,x9,x10,x11,x12,dO,x14,x15,x16,x17,x18,x19,x20,x21,su,x23,x24,x25,F5,x27)=>f x0 x1 x2 x3 x4 x5 x6 x7 x8 x9 x10 x11 x12 dO x14 x15 x16 x17 x18 x19 x20 x21 su x23 x24 x25 F5 x27
theorem al1 (f:a0->a1->a2->a3->a4->a5->a6->a7->a8->a9->a10->a11->a12->jL->kE->kC->a16->a17->mX->pK->a20->a21->a22->a23->a24->a25->a26->a27->γ):u28 f (x0,x1,x2,x3,x4,x5,x6,x7,x8,x9,x10,x11,x12,dO,x14,x15,x16,x17,x18,x19,x20,x21,su,x23,x24,x25,F5,x27)=f x0 x1 x2 x3 x4 x5 x6 x7 x8 x9 x10 x11 x12 dO x14 x15 x16 x17 x18 x19 x20 x21 su x23 x24 x25 F5 x27:=(rfl)
def u29 (f:a0->a1->a2->a3->a4->a5->a6->a7->a8->a9->a10->a11->a12->jL->kE->kC->a16->a17->mX->pK->a20->a21->a22->a23->a24->a25->a26->a27->a28->γ):a0×a1×a2×a3×a4×a5×a6×a7×a8×a9×a10×a11×a12×jL×kE×kC×a16×a17×mX×pK×a20×a21×a22×a23×a24×a25×a26×a27×a28->γ:=fun (x0,x1,x2,x3,x4,x5,x6,x7,x8,x9,x10,x11,x12,dO,x14,x15,x16,x17,x18,x19,x20,x21,su,x23,x24,x25,F5,x27,x28)=>f x0 x1 x2 x3 x4 x5 x6 x7 x8 x9 x10 x11 x12 dO x14 x15 x16 x17 x18 x19 x20 x21 su x23 x24 x25 F5 x27 x28
theorem al0 (f:a0->a1->a2->a3->a4->a5->a6->a7->a8->a9->a10->a11->a12->jL->kE->kC->a16->a17->mX->pK->a20->a21->a22->a23->a24->a25->a26->a27->a28->γ):u29 f (x0,x1,x2,x3,x4,x5,x6,x7,x8,x9,x10,x11,x12,dO,x14,x15,x16,x17,x18,x19,x20,x21,su,x23,x24,x25,F5,x27,x28)=f x0 x1 x2 x3 x4 x5 x6 x7 x8 x9 x10 x11 x12 dO x14 x15 x16 x17 x18 x19 x20 x21 su x23 x24 x25 F5 x27 x28:=(rfl)
def u30 (f:a0->a1->a2->a3->a4->a5->a6->a7->a8->a9->a10->a11->a12->jL->kE->kC->a16->a17->mX->pK->a20->a21->a22->a23->a24->a25->a26->a27->a28->a29->γ):a0×a1×a2×a3×a4×a5×a6×a7×a8×a9×a10×a11×a12×jL×kE×kC×a16×a17×mX×pK×a20×a21×a22×a23×a24×a25×a26×a27×a28×a29->γ:=fun (x0,x1,x2,x3,x4,x5,x6,x7,x8,x9,x10,x11,x12,dO,x14,x15,x16,x17,x18,x19,x20,x21,su,x23,x24,x25,F5,x27,x28,x29)=>f x0 x1 x2 x3 x4 x5 x6 x7 x8 x9 x10 x11 x12 dO x14 x15 x16 x17 x18 x19 x20 x21 su x23 x24 x25 F5 x27 x28 x29
theorem alZ (f:a0->a1->a2->a3->a4->a5->a6->a7->a8->a9->a10->a11->a12->jL->kE->kC->a16->a17->mX->pK->a20->a21->a22->a23->a24->a25->a26->a27->a28->a29->γ):u30 f (x0,x1,x2,x3,x4,x5,x6,x7,x8,x9,x10,x11,x12,dO,x14,x15,x16,x17,x18,x19,x20,x21,su,x23,x24,x25,F5,x27,x28,x29)=f x0 x1 x2 x3 x4 x5 x6 x7 x8 x9 x10 x11 x12 dO x14 x15 x16 x17 x18 x19 x20 x21 su x23 x24 x25 F5 x27 x28 x29:=(rfl)
end
attribute [go_sem] uq0 oC yI Zd uq4 uq5 OW KO uq8 OV KY Zo ahV ahU al6 al5 al4 adz ahT al3 ady al2 al1 al0 alZ
theorem vm {α β:Type} [Inhabited β] {tb:oD} {f:Nat} {fn:Func} {c:Code} {n:Nat} {e:α->List Arg} {d:List Arg->α} {g:α->Option β} {u:β->List RV} {al:Bool} (htb:dS Tryz.prog tb) (hf:Tryz.prog.funcs[f]? =some fn) (hn:fn.ntmps=n) (h:∀ x r,g x=some r->∀ stop,ahE Tryz.prog ty tb n fn al (u r) stop->stop [.code c] (St.begin (e x))) (hb:fn.body=some c:=by rfl) (hl:∀ x,(e x).length<=n:=by exact fun _=>nL rfl) (hm:(fn.name == "runtime.NumGoroutine")=false:=by decide):aF Tryz.prog f (mkT e d g u al).sp:=
 oM bP htb hf hb hn (fun x r hr=>⟨hl x,h x r hr⟩) hm
attribute [go_sem] Tryz.results3 Tryz.results4 Tryz.results5 Tryz.results6 Tryz.results7 Tryz.results8 Tryz.results9 Tryz.results10 Tryz.results11 Tryz.results12 Tryz.results13 Tryz.results14 Tryz.results15 Tryz.results16 Tryz.results17 Tryz.results18 Tryz.results19 Tryz.results20 Tryz.results21 Tryz.results22 Tryz.results23 Tryz.results24 Tryz.results25 Tryz.results26 Tryz.results27 Tryz.results28 Tryz.results29 Tryz.results30 Tryz.results31 Tryz.results32 Tryz.results33 Tryz.results34 Tryz.results35 Tryz.results36 Tryz.results37 Tryz.results38 Tryz.results39 Tryz.results40 Tryz.results41 Tryz.results42 Tryz.results43 Tryz.results44 Tryz.results45 Tryz.results46 Tryz.results47 Tryz.results48 Tryz.results49 Tryz.results50 Tryz.results51 Tryz.results52 Tryz.results53 Tryz.results54 Tryz.results55 Tryz.results56 Tryz.results57 Tryz.results58 Tryz.results59 Tryz.results60 Tryz.results61 Tryz.results62 Tryz.results63 Tryz.results64 Tryz.results67 Tryz.results68 Tryz.results69 Tryz.results70 Tryz.results71 Tryz.results72 Tryz.results73 Tryz.results74 Tryz.results75 Tryz.results76 Tryz.results77 Tryz.results78 Tryz.results79 Tryz.results80 Tryz.results81 Tryz.results82 Tryz.results83 Tryz.results84 Tryz.results85 Tryz.results86 Tryz.results87 Tryz.results88 Tryz.results89 Tryz.results90 Tryz.results91 Tryz.results96 Tryz.results97 Tryz.results98 Tryz.results99 Tryz.results100 Tryz.results101 Tryz.results102 Tryz.results103 Tryz.results104 Tryz.results105 Tryz.results106 Tryz.results107 Tryz.results108 Tryz.results109 Tryz.results110 Tryz.results111 Tryz.results112 Tryz.results114 Tryz.results115 Tryz.results116 Tryz.results117 Tryz.results118 Tryz.results119 Tryz.results120 Tryz.results121 Tryz.results122 Tryz.results123 Tryz.results124 Tryz.results125 Tryz.results126 Tryz.results127 Tryz.results128 Tryz.results129 Tryz.results130 Tryz.results131 Tryz.results132 Tryz.results133 Tryz.results134 Tryz.results135 Tryz.results136 Tryz.results140 Tryz.results141 Tryz.results142 Tryz.results143 Tryz.results144 Tryz.results145 Tryz.results146 Tryz.results147 Tryz.results148 Tryz.results149 Tryz.results150 Tryz.results151 Tryz.results152 Tryz.results153 Tryz.results154 Tryz.results155 Tryz.results156 Tryz.results157 Tryz.results158 Tryz.results159 Tryz.results160 Tryz.results161 Tryz.results162 Tryz.results163 Tryz.results164 Tryz.results165 Tryz.results166 Tryz.results167 Tryz.results168 Tryz.results169 Tryz.results170 Tryz.results171 Tryz.results172 Tryz.results173 Tryz.results174 Tryz.results175 Tryz.results176 Tryz.results177 Tryz.results178 Tryz.results179 Tryz.results180 Tryz.results181 Tryz.results182 Tryz.results183 Tryz.results190 Tryz.results191 Tryz.results192 Tryz.results193 Tryz.results194 Tryz.results195 Tryz.results196 Tryz.results197 Tryz.results198 Tryz.results199 Tryz.results200 Tryz.results201 Tryz.results202 Tryz.results203 Tryz.results204 Tryz.results207 Tryz.results214 Tryz.results215 Tryz.results216 Tryz.results217 Tryz.results218 Tryz.results219 Tryz.results220 Tryz.results221 Tryz.results222 Tryz.results223 Tryz.results224 Tryz.results233 Tryz.results234 Tryz.results235 Tryz.results236 Tryz.results237 Tryz.results238 Tryz.results239 Tryz.results240 Tryz.results241 Tryz.results242 Tryz.results243 Tryz.results244 Tryz.results254 Tryz.results255 Tryz.results256 Tryz.results257 Tryz.results262 Tryz.results263
section
variable {β:Type} [Inhabited β] (u:β->List RV) (al:Bool)
def qw0:List Arg:=[]
def qd0 (_:List Arg):Unit:=()
def qT0 (r:Option β):=mkT (u0 qw0) qd0 (u0 r) u al
attribute [go_sem] qw0 qd0 qT0
def qw1 (a0 a1 a2:Int):List Arg:=[.c (.int .i64 a0),.c (.int .i64 a1),.c (.int .i64 a2)]
def qd1:List Arg->Int×Int×Int
 | [.c c0,.c c1,.c c2]=>(aC c0,aC c1,aC c2)
 | _=>default
def qT1 (r:Int->Int->Int->Option β):=mkT (u3 qw1) qd1 (u3 r) u al
attribute [go_sem] qw1 qd1 qT1
def qw2 (a0:Bool) (a1:Int):List Arg:=[.c (.bool a0),.c (.int .i64 a1)]
def qd2:List Arg->Bool×Int
 | [.c c0,.c c1]=>(ahr c0,aC c1)
 | _=>default
def qT2 (r:Bool->Int->Option β):=mkT (u2 qw2) qd2 (u2 r) u al
attribute [go_sem] qw2 qd2 qT2
def qw3 (a0:bn):List Arg:=[.c (ah 1 cu a0)]
def qd3:List Arg->bn
 | [.c c0]=>aG jM c0
 | _=>default
def qT3 (r:bn->Option β):=mkT (u1 qw3) qd3 (u1 r) u al
attribute [go_sem] qw3 qd3 qT3
def qw4 (a0:Int):List Arg:=[.c (.int .i64 a0)]
def qd4:List Arg->Int
 | [.c c0]=>aC c0
 | _=>default
def KQ (r:Int->Option β):=mkT (u1 qw4) qd4 (u1 r) u al
attribute [go_sem] qw4 qd4 KQ
def qw5 (a0:au):List Arg:=[.c (ah 2 aT a0)]
def qd5:List Arg->au
 | [.c c0]=>aG bY c0
 | _=>default
def qT5 (r:au->Option β):=mkT (u1 qw5) qd5 (u1 r) u al
attribute [go_sem] qw5 qd5 qT5
def qw7 (a0 a1:Int):List Arg:=[.c (.int .i64 a0),.c (.int .i64 a1)]
def qd7:List Arg->Int×Int
 | [.c c0,.c c1]=>(aC c0,aC c1)
 | _=>default
def qT7 (r:Int->Int->Option β):=mkT (u2 qw7) qd7 (u2 r) u al
attribute [go_sem] qw7 qd7 qT7
def aqe (a0 a1:au):List Arg:=[.c (ah 2 aT a0),.c (ah 2 aT a1)]
def arY:List Arg->au×au
 | [.c c0,.c c1]=>(aG bY c0,aG bY c1)
 | _=>default
def aar (r:au->au->Option β):=mkT (u2 aqe) arY (u2 r) u al
attribute [go_sem] aqe arY aar
def aqd (a0 a1:Int) (a2:au) (a3:aj):List Arg:=[.agg [.int .i64 a0,.int .i64 a1,ah 2 aT a2,ah 1 aQ a3]]
def arX:List Arg->Int×Int×au×aj
 | [.agg [c0,c1,c2,c3]]=>(aC c0,aC c1,aG bY c2,aG bQ c3)
 | _=>default
def XT (r:Int->Int->au->aj->Option β):=mkT (u4 aqd) arX (u4 r) u al
attribute [go_sem] aqd arX XT
def aqc (a0 a1:Int) (a2:au) (a3:aj) (a4:au) (a5:aj) (a6:Int):List Arg:=[.agg [.int .i64 a0,.int .i64 a1,ah 2 aT a2,ah 1 aQ a3,ah 2 aT a4,ah 1 aQ a5],.c (.int .i64 a6)]
def arW:List Arg->Int×Int×au×aj×au×aj×Int
 | [.agg [c0,c1,c2,c3,c4,c5],.c c6]=>(aC c0,aC c1,aG bY c2,aG bQ c3,aG bY c4,aG bQ c5,aC c6)
 | _=>default
def afc (r:Int->Int->au->aj->au->aj->Int->Option β):=mkT (u7 aqc) arW (u7 r) u al
attribute [go_sem] aqc arW afc
def aqb (a0 a1 a2:Int) (a3:au) (a4:aj) (a5:au) (a6:aj):List Arg:=[.c (.int .i64 a0),.ptr [.int .i64 a1,.int .i64 a2,ah 2 aT a3,ah 1 aQ a4,ah 2 aT a5,ah 1 aQ a6]]
def arV:List Arg->Int×Int×Int×au×aj×au×aj
 | [.c c0,.ptr [c1,c2,c3,c4,c5,c6]]=>(aC c0,aC c1,aC c2,aG bY c3,aG bQ c4,aG bY c5,aG bQ c6)
 | _=>default
def ai5 (r:Int->Int->Int->au->aj->au->aj->Option β):=mkT (u7 aqb) arV (u7 r) u al
attribute [go_sem] aqb arV ai5
def ap8 (a0 a1:Int) (a2:au) (a3:aj) (a4 a5:bn):List Arg:=[.agg [.int .i64 a0,.int .i64 a1,ah 2 aT a2,ah 1 aQ a3],.agg [ah 1 cu a4,ah 1 cu a5]]
def arR:List Arg->Int×Int×au×aj×bn×bn
 | [.agg [c0,c1,c2,c3],.agg [c4,c5]]=>(aC c0,aC c1,aG bY c2,aG bQ c3,aG jM c4,aG jM c5)
 | _=>default
def aaq (r:Int->Int->au->aj->bn->bn->Option β):=mkT (u6 ap8) arR (u6 r) u al
attribute [go_sem] ap8 arR aaq
def ap7 (a0 a1:Int) (a2:au) (a3:aj) (a4 a5:bn) (a6:au) (a7 a8:Int):List Arg:=[.agg [.int .i64 a0,.int .i64 a1,ah 2 aT a2,ah 1 aQ a3,ah 1 cu a4,ah 1 cu a5,ah 2 aT a6,.int .i64 a7,.int .i64 a8]]
def arQ:List Arg->Int×Int×au×aj×bn×bn×au×Int×Int
 | [.agg [c0,c1,c2,c3,c4,c5,c6,c7,c8]]=>(aC c0,aC c1,aG bY c2,aG bQ c3,aG jM c4,aG jM c5,aG bY c6,aC c7,aC c8)
 | _=>default
def L8 (r:Int->Int->au->aj->bn->bn->au->Int->Int->Option β):=mkT (u9 ap7) arQ (u9 r) u al
attribute [go_sem] ap7 arQ L8
def ap6 (a0:aK):List Arg:=[.c (ah 6 aZ a0)]
def arP:List Arg->aK
 | [.c c0]=>aG dN c0
 | _=>default
def Dc (r:aK->Option β):=mkT (u1 ap6) arP (u1 r) u al
attribute [go_sem] ap6 arP Dc
def ap5 (a0 a1 a2 a3 a4:Int) (a5:Hl):List Arg:=[.agg [.int .i64 a0,.int .i64 a1,.int .i64 a2,.int .i64 a3,.int .i64 a4,hE a5]]
def arO:List Arg->Int×Int×Int×Int×Int×Hl
 | [.agg [c0,c1,c2,c3,c4,c5]]=>(aC c0,aC c1,aC c2,aC c3,aC c4,hD c5)
 | _=>default
def XR (r:Int->Int->Int->Int->Int->Hl->Option β):=mkT (u6 ap5) arO (u6 r) u al
attribute [go_sem] ap5 arO XR
def ap3 (a0 a1:Int) (a2:au) (a3:aj) (a4:Int):List Arg:=[.agg [.int .i64 a0,.int .i64 a1,ah 2 aT a2,ah 1 aQ a3],.c (.int .i64 a4)]
def arM:List Arg->Int×Int×au×aj×Int
 | [.agg [c0,c1,c2,c3],.c c4]=>(aC c0,aC c1,aG bY c2,aG bQ c3,aC c4)
 | _=>default
def afb (r:Int->Int->au->aj->Int->Option β):=mkT (u5 ap3) arM (u5 r) u al
attribute [go_sem] ap3 arM afb
def ap2 (a0 a1:Int) (a2:au) (a3:aj) (a4 a5:bn) (a6:au) (a7 a8 a9 a10:Int):List Arg:=[.agg [.int .i64 a0,.int .i64 a1,ah 2 aT a2,ah 1 aQ a3,ah 1 cu a4,ah 1 cu a5,ah 2 aT a6,.int .i64 a7,.int .i64 a8],.c (.int .i64 a9),.c (.int .i64 a10)]
def arL:List Arg->Int×Int×au×aj×bn×bn×au×Int×Int×Int×Int
 | [.agg [c0,c1,c2,c3,c4,c5,c6,c7,c8],.c c9,.c c10]=>(aC c0,aC c1,aG bY c2,aG bQ c3,aG jM c4,aG jM c5,aG bY c6,aC c7,aC c8,aC c9,aC c10)
 | _=>default
def afa (r:Int->Int->au->aj->bn->bn->au->Int->Int->Int->Int->Option β):=mkT (u11 ap2) arL (u11 r) u al
attribute [go_sem] ap2 arL afa
def ap1 (a0 a1:Int):List Arg:=[.agg [.int .i64 a0,.int .i64 a1]]
def arK:List Arg->Int×Int
 | [.agg [c0,c1]]=>(aC c0,aC c1)
 | _=>default
def Qb (r:Int->Int->Option β):=mkT (u2 ap1) arK (u2 r) u al
attribute [go_sem] ap1 arK Qb
def apZ (a0 a1:Int) (a2:au) (a3:aj) (a4:bn):List Arg:=[.agg [.int .i64 a0,.int .i64 a1,ah 2 aT a2,ah 1 aQ a3],.c (ah 1 cu a4)]
def arI:List Arg->Int×Int×au×aj×bn
 | [.agg [c0,c1,c2,c3],.c c4]=>(aC c0,aC c1,aG bY c2,aG bQ c3,aG jM c4)
 | _=>default
def ae' (r:Int->Int->au->aj->bn->Option β):=mkT (u5 apZ) arI (u5 r) u al
attribute [go_sem] apZ arI ae'
def apS (a0 a1:Int) (a2:au) (a3:aj) (a4 a5:bn) (a6:au) (a7 a8:Int) (a9:aK):List Arg:=[.agg [.int .i64 a0,.int .i64 a1,ah 2 aT a2,ah 1 aQ a3,ah 1 cu a4,ah 1 cu a5,ah 2 aT a6,.int .i64 a7,.int .i64 a8],.c (ah 6 aZ a9)]
def arB:List Arg->Int×Int×au×aj×bn×bn×au×Int×Int×aK
 | [.agg [c0,c1,c2,c3,c4,c5,c6,c7,c8],.c c9]=>(aC c0,aC c1,aG bY c2,aG bQ c3,aG jM c4,aG jM c5,aG bY c6,aC c7,aC c8,aG dN c9)
 | _=>default
def ae9 (r:Int->Int->au->aj->bn->bn->au->Int->Int->aK->Option β):=mkT (u10 apS) arB (u10 r) u al
attribute [go_sem] apS arB ae9
def apR (a0:bD) (a1:aY) (a2:bC) (a3:au) (a4 a5 a6 a7:Int):List Arg:=[.agg [ah 4 dh a0,ah 5 bT a1,ah 3 dn a2,ah 2 aT a3,.int .i64 a4,.int .i64 a5,.int .i64 a6,.int .i64 a7]]
def arA:List Arg->bD×aY×bC×au×Int×Int×Int×Int
 | [.agg [c0,c1,c2,c3,c4,c5,c6,c7]]=>(aG jD c0,aG gW c1,aG jE c2,aG bY c3,aC c4,aC c5,aC c6,aC c7)
 | _=>default
def ae8 (r:bD->aY->bC->au->Int->Int->Int->Int->Option β):=mkT (u8 apR) arA (u8 r) u al
attribute [go_sem] apR arA ae8
def apN (a0 a1:Int) (a2:au) (a3:aj) (a4 a5:bn) (a6:au) (a7 a8:Int) (a9:au):List Arg:=[.agg [.int .i64 a0,.int .i64 a1,ah 2 aT a2,ah 1 aQ a3,ah 1 cu a4,ah 1 cu a5,ah 2 aT a6,.int .i64 a7,.int .i64 a8],.c (ah 2 aT a9)]
def arv:List Arg->Int×Int×au×aj×bn×bn×au×Int×Int×au
 | [.agg [c0,c1,c2,c3,c4,c5,c6,c7,c8],.c c9]=>(aC c0,aC c1,aG bY c2,aG bQ c3,aG jM c4,aG jM c5,aG bY c6,aC c7,aC c8,aG bY c9)
 | _=>default
def ae7 (r:Int->Int->au->aj->bn->bn->au->Int->Int->au->Option β):=mkT (u10 apN) arv (u10 r) u al
attribute [go_sem] apN arv ae7
def apD (a0:bD) (a1:aY) (a2:bC) (a3:au) (a4 a5 a6 a7 a8:Int):List Arg:=[.agg [ah 4 dh a0,ah 5 bT a1,ah 3 dn a2,ah 2 aT a3,.int .i64 a4,.int .i64 a5,.int .i64 a6,.int .i64 a7],.c (.int .i64 a8)]
def ari:List Arg->bD×aY×bC×au×Int×Int×Int×Int×Int
 | [.agg [c0,c1,c2,c3,c4,c5,c6,c7],.c c8]=>(aG jD c0,aG gW c1,aG jE c2,aG bY c3,aC c4,aC c5,aC c6,aC c7,aC c8)
 | _=>default
def XQ (r:bD->aY->bC->au->Int->Int->Int->Int->Int->Option β):=mkT (u9 apD) ari (u9 r) u al
attribute [go_sem] apD ari XQ
def apb (a0:aK) (a1:Int):List Arg:=[.c (ah 6 aZ a0),.c (.int .i64 a1)]
def aqQ:List Arg->aK×Int
 | [.c c0,.c c1]=>(aG dN c0,aC c1)
 | _=>default
def aiY (r:aK->Int->Option β):=mkT (u2 apb) aqQ (u2 r) u al
attribute [go_sem] apb aqQ aiY
def qu0 (v:Int×Int×au×aj×bn×bn×au×Int×Int):List RV:=[.agg [.d (.int .i64 v.1),.d (.int .i64 v.2.1),.own (ah 2 aT v.2.2.1),.own (ah 1 aQ v.2.2.2.1),.own (ah 1 cu v.2.2.2.2.1),.own (ah 1 cu v.2.2.2.2.2.1),.own (ah 2 aT v.2.2.2.2.2.2.1),.d (.int .i64 v.2.2.2.2.2.2.2.1),.d (.int .i64 v.2.2.2.2.2.2.2.2)]]
attribute [go_sem] qu0
def qu1 (v:aK):List RV:=[.c (.own (ah 6 aZ v))]
attribute [go_sem] qu1
def oQ (v:Bool):List RV:=[.c (.d (.bool v))]
attribute [go_sem] oQ
def lC (v:Int):List RV:=[.c (.d (.int .i64 v))]
attribute [go_sem] lC
def Gq (v:Int×Int):List RV:=[.c (.d (.int .i64 v.1)),.c (.d (.int .i64 v.2))]
attribute [go_sem] Gq
def qu5 (v:au):List RV:=[.c (.own (ah 2 aT v))]
attribute [go_sem] qu5
def qu6 (v:Int×Bool):List RV:=[.c (.d (.int .i64 v.1)),.c (.d (.bool v.2))]
attribute [go_sem] qu6
def qu7 (v:Int×Int):List RV:=[.agg [.d (.int .i64 v.1),.d (.int .i64 v.2)]]
attribute [go_sem] qu7
def qu8 (v:Int×Int×au×aj×au×aj×Int):List RV:=[.agg [.d (.int .i64 v.1),.d (.int .i64 v.2.1),.d (ah 2 aT v.2.2.1),.d (ah 1 aQ v.2.2.2.1),.own (ah 2 aT v.2.2.2.2.1),.own (ah 1 aQ v.2.2.2.2.2.1)],.c (.d (.int .i64 v.2.2.2.2.2.2))]
attribute [go_sem] qu8
def aan (v:au×Int):List RV:=[.c (.own (ah 2 aT v.1)),.c (.d (.int .i64 v.2))]
attribute [go_sem] aan
def Jh (v:Int×Int×Int×Int×Int×Int×Int×Int×Int×Int×Int×Int×Int×Int):List RV:=[.agg [.d (.int .i64 v.1),.d (.int .i64 v.2.1),.d (.int .i64 v.2.2.1),.d (.int .i64 v.2.2.2.1),.d (.int .i64 v.2.2.2.2.1),.d (.int .i64 v.2.2.2.2.2.1),.d (.int .i64 v.2.2.2.2.2.2.1),.d (.int .i64 v.2.2.2.2.2.2.2.1),.d (.int .i64 v.2.2.2.2.2.2.2.2.1),.d (.int .i64 v.2.2.2.2.2.2.2.2.2.1),.d (.int .i64 v.2.2.2.2.2.2.2.2.2.2.1),.d (.int .i64 v.2.2.2.2.2.2.2.2.2.2.2.1),.d (.int .i64 v.2.2.2.2.2.2.2.2.2.2.2.2.1),.d (.int .i64 v.2.2.2.2.2.2.2.2.2.2.2.2.2)]]
attribute [go_sem] Jh
def ae4 (v:ByteArray):List RV:=[.c (.d (.str v))]
attribute [go_sem] ae4
def ae3 (v:bn):List RV:=[.c (.own (ah 1 cu v))]
attribute [go_sem] ae3
end
end Go.Proofs.YtkbdjphdhcgmaaaGreatDoor

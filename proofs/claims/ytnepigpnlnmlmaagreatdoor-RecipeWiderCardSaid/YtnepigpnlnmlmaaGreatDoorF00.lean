/- Lists in cells, written by wip/dec. -/
import Derived.Test.YtnepigpnlnmlmaaGreatDoorTy
import Derived.Test.YtnepigpnlnmlmaaGreatDoorAbsTac
import Derived.Test.YtnepigpnlnmlmaaGreatDoorLib
import Derived.WalkKit
set_option linter.unusedVariables false
set_option linter.unusedSimpArgs false
set_option linter.constructorNameAsVariable false
set_option maxHeartbeats 4000000
set_option maxRecDepth 20000
namespace Go.Proofs.YtnepigpnlnmlmaaGreatDoor
open Tryz Go.dR
attribute [go_sem] HY jP mQ aeN Ig gQ pY aeM ahM NY ahN nD
theorem ac1 {α:Type} (r:List α):List.append [] r=r:=rfl
theorem ZF {α:Type} (a:α) (l r:List α):List.append (a::l) r=a::List.append l r:=rfl
attribute [go_sem] ac1 ZF
section
variable {α β:Type} [Inhabited β] (e:α->List Arg) (d:List Arg->α) (f:α->Option β) (u:β->List RV) (al:Bool) (a:List Arg)
theorem mkP:(mkT e d f u al).sp.pre a=(eqvArgs a (e (d a))/\(f (d a)).isSome=true):=(rfl)
theorem mkR:(mkT e d f u al).sp.res a=u ((f (d a)).getD default):=(rfl)
theorem mkA:(mkT e d f u al).sp.alias=al:=(rfl)
end
attribute [go_sem] mkP mkR mkA
inductive Hl where
 | nil
 | cons (a:Int) (b:Int) (c:Int) (d:Int) (e:Int) (f r:Hl)
instance:Inhabited Hl:=⟨.nil⟩
abbrev dB:=List (Int×Int×Int×Int×Int×Hl)
def hU:Hl->dB
 | .nil=>[]
 | .cons a b c d e f r=>(a,b,c,d,e,f)::hU r
def hM:dB->Hl
 | []=> .nil
 | (a,b,c,d,e,f)::r=> .cons a b c d e f (hM r)
theorem QF:∀ l,hU (hM l)=l
 | []=>rfl
 | (a,b,c,d,e,f)::r=>by simp only [hM,hU,QF r]
theorem XU:∀ x,hM (hU x)=x
 | .nil=>rfl
 | .cons a b c d e f r=>by simp only [hM,hU,XU r]
def hN:Hl->Nat
 | .nil=>0
 | .cons _ _ _ _ _ _ r=>hN r+1
def hG:Hl->Nat->List D
 | .nil,_=>[]
 | .cons a b c d e f _,0=>[.int .i64 a,.int .i64 b,.int .i64 c,.int .i64 d,.int .i64 e,.sl 6 (hN f) (hG f)]
 | .cons _ _ _ _ _ _ r,i+1=>hG r i
def hE (x:Hl):D:= .sl 6 (hN x) (hG x)
def hB {α:Type} (f:Nat->α):Nat->Nat->List α
 | _,0=>[]
 | i,n+1=>f i::hB f (i+1) n
mutual
def hD:D->Hl
 | .sl _ n g=>hM (hB (λi=>iy (g i)) 0 n)
 | _=> .nil
def iy:List D->Int×Int×Int×Int×Int×Hl
 | [.int _ a,.int _ b,.int _ c,.int _ d,.int _ e,f]=>(a,b,c,d,e,hD f)
 | _=>default
end
def dO (x:Int×Int×Int×Int×Int×Hl):List D:=[.int .i64 x.1,.int .i64 x.2.1,.int .i64 x.2.2.1,.int .i64 x.2.2.2.1,.int .i64 x.2.2.2.2.1,hE x.2.2.2.2.2]
theorem aak (x:Int×Int×Int×Int×Int×Hl):dO x=[.int .i64 x.1,.int .i64 x.2.1,.int .i64 x.2.2.1,.int .i64 x.2.2.2.1,.int .i64 x.2.2.2.2.1,hE x.2.2.2.2.2]:=by rw [dO]
theorem adJ:∀ x,(hU x).length=hN x
 | .nil=>rfl
 | .cons _ _ _ _ _ _ r=>by simp only [hU,hN,List.length_cons,adJ r]
theorem al1:∀ x i,i<hN x->hG x i=dO ((hU x).getD i default)
 | .nil,_,h=>absurd h (by simp [hN])
 | .cons _ _ _ _ _ _ r,0,_=>rfl
 | .cons _ _ _ _ _ _ r,i+1,h=>by
  simp only [hG,hU,List.getD_cons_succ]
  exact al1 r i (by simp only [hN] at h; omega)
theorem adN {α:Type} (f:Nat->α):∀ n i,hB f i n=(List.range n).map λj=>f (i+j)
 | 0,_=>rfl
 | n+1,i=>by
  rw [hB,adN f n (i+1),List.range_succ_eq_map,List.map_cons,List.map_map]
  congr 1
  refine List.map_congr_left λj _=> ?_
  simp only [Function.comp]
  congr 1; omega
theorem al2 (s n:Nat) (g:Nat->List D):hD (.sl s n g)=hM (aN iy (.sl s n g)):=by
 rw [hD,adN]
 simp only [aN,D.len,D.nth,Nat.zero_add]
theorem Nw:∀ x,aN iy (hE x)=hU x
 | .nil=>rfl
 | .cons a b c d e f r=>by
  show (List.range (hN r+1)).map (λi=>iy (hG (.cons a b c d e f r) i))=_
  rw [List.range_succ_eq_map,List.map_cons,List.map_map,hU]
  have h1:iy (hG (.cons a b c d e f r) 0)=(a,b,c,d,e,f):=by
   show iy [.int .i64 a,.int .i64 b,.int .i64 c,.int .i64 d,.int .i64 e,hE f]=_
   rw [iy,hE,al2]
   have:=Nw f
   rw [hE] at this
   rw [this,XU]
  rw [h1]
  congr 1
  exact Nw r
theorem awG (x:Hl):hD (hE x)=x:=by
 show hD (.sl 6 (hN x) (hG x))=x
 rw [al2]; show hM (aN iy (hE x))=x
 rw [Nw,XU]
theorem ZU (x:Int×Int×Int×Int×Int×Hl):iy (dO x)=x:=by
 show iy [_,_,_,_,_,_]=x
 rw [iy,awG]
theorem H9 (l:dB):aN iy (aj 6 dO l)=l:=iI _ _ _ _ ZU
theorem al3 (l:dB):hD (aj 6 dO l)=hM l:=by
 show hD (.sl _ _ _)=_
 rw [al2]; show hM (aN iy (aj 6 dO l))=_
 rw [H9]
theorem adL (x:Hl):(hE x).len=(hU x).length:=(adJ x).symm
theorem ahi (x:Hl):(hE x).cu=true:=rfl
theorem ZO (x:Hl):(hE x).stride=6:=rfl
theorem adM (x:Hl):Go.dR.Can 6 dO (hU x) (hE x):=⟨rfl,rfl,(adJ x).symm,λi hi=>by
 show oh (hG x i) _
 rw [al1 x i (by rw [<- adJ]; exact hi)]; exact .refl _⟩
theorem ahu (x:Hl):oH (hE x) (aj 6 dO (hU x))=True:=jP (adM x)
theorem ahx (x:Hl):oH (hE x) (hE x)=True:=eq_true (.refl _)
theorem ahw {l:dB} {d:D} (h:Go.dR.Can 6 dO l d):oH d (hE (hM l))=True:=eq_true (ou.eqv ⟨h.1,rfl,h.2.1.trans rfl,h.2.2.1.trans (by rw [adL,QF]),λi hi=>by
 have hl:=h.2.2.1
 have h1:=h.2.2.2 i (by omega)
 have h2:(hE (hM l)).nth i=dO (l.getD i default):=by
  show hG (hM l) i=_
  rw [al1 _ i (by rw [<- adJ,QF]; omega),QF]
 rw [h2]; exact h1⟩)
theorem ahv (s:Nat) (g:Nat->List D):oH (.sl s 0 g) (hE .nil)=True:=eq_true (.nil _ _ _ _)
theorem aDS (s:Nat) (g:Nat->List D):hD (.sl s 0 g)= .nil:=(rfl)
theorem amg (x:Hl):Go.dR.Can 6 dO (hU x) (hE x)=True:=eq_true (adM x)
theorem Vx {α:Type} [Inhabited α] {s s':Nat} {f:α->List D} {l:List α} {a:α} {x:D} {c0 c:List D} (hx:Go.dR.Can s f l x) (hn:c0.length=c.length) (hc:jd c (f a)):Go.dR.Can s f (l++[a]) ((D.cat x (D.ofList s' [c0])).setAt l.length 0 c)=True:=by
 obtain ⟨h1,h2,h3,h4⟩:=hx
 refine eq_true ⟨rfl,h2,by show x.len+1=_; rw [h3]; simp,λi hi=> ?_⟩
 have hi':i<l.length+1:=by simpa using hi
 by_cases e:i=l.length
 ·subst e
  have g1:((D.cat x (D.ofList s' [c0])).setAt l.length 0 c).nth l.length=c:=by
   show (if l.length=l.length then splice ((D.cat x (D.ofList s' [c0])).nth l.length) 0 c else _)=c
   rw [if_pos rfl]
   have:(D.cat x (D.ofList s' [c0])).nth l.length=c0:=by
    show (if l.length<x.len then _ else _)=_
    rw [if_neg (by omega),h3,Nat.sub_self]; rfl
   rw [this]; simp [splice,hn]
  rw [g1]
  have g2:(l++[a]).getD l.length default=a:=by simp [List.getD_eq_getElem?_getD]
  rw [g2]; exact gY hc
 have hlt:i<l.length:=by omega
 have g1:((D.cat x (D.ofList s' [c0])).setAt l.length 0 c).nth i=x.nth i:=by
  show (if i=l.length then _ else (D.cat x (D.ofList s' [c0])).nth i)=_
  rw [if_neg e]
  show (if i<x.len then x.nth i else _)=_
  rw [if_pos (by omega)]
 rw [g1]
 have g2:(l++[a]).getD i default=l.getD i default:=by simp [List.getD_eq_getElem?_getD,List.getElem?_append_left hlt]
 rw [g2]; exact h4 i hlt
attribute [go_sem] aak iy H9 QF XU Nw awG al3 adL ahi ZO ahu ahx ahw ahv aDS amg Vx
abbrev aV:=List (Int)
def dh (x:Int):List D:=[.int .i64 x]
theorem aEk (x:Int):dh x=[.int .i64 x]:=by rw [dh]
def kV:List D->Int
 | [.int _ a]=>a
 | _=>default
theorem aD1 (x:Int):kV (dh x)=x:=by rfl
theorem aen (l:List (Int)):aN kV (aj 1 dh l)=l:=iI _ _ _ _ aD1
theorem aD4 (l:List (Int)):(aj 1 dh l).flat=True:=rY (λ_=>rfl)
attribute [go_sem] aEk kV aen aD4
abbrev aA:=List (Int×Int)
def aQ (x:Int×Int):List D:=[.int .i64 x.1,.int .i64 x.2]
theorem ajd (x:Int×Int):aQ x=[.int .i64 x.1,.int .i64 x.2]:=by rw [aQ]
def bZ:List D->Int×Int
 | [.int _ a,.int _ b]=>(a,b)
 | _=>default
theorem ai' (x:Int×Int):bZ (aQ x)=x:=by rfl
theorem NU (l:List (Int×Int)):aN bZ (aj 2 aQ l)=l:=iI _ _ _ _ ai'
theorem awK (l:List (Int×Int)):(aj 2 aQ l).flat=True:=rY (λ_=>rfl)
attribute [go_sem] ajd bZ NU awK
theorem awW (o:Option (Int×Int)):decP bZ (.pt o.isSome [.int .i64 (o.getD default).1,.int .i64 (o.getD default).2])=o:=by have:=sF ai' o; rwa [ajd] at this
attribute [go_sem] awW
abbrev au:=List ((List (Int×Int)))
def aU (x:aA):List D:=[aj 2 aQ x]
theorem ahz (x:aA):aU x=[aj 2 aQ x]:=by rw [aU]
def bW:List D->aA
 | [a]=>aN bZ a
 | _=>default
theorem ahm (x:aA):bW (aU x)=x:=by simp only [bW,aU,NU]
theorem ael (l:List (aA)):aN bW (aj 1 aU l)=l:=iI _ _ _ _ ahm
theorem ahy {l:List (aA)} {d:D} (h:Jv 2 aQ l d):Oy d (aj 1 aU l)=True:=aef (λ_=>rfl) h
theorem aeD (l:List (aA)):Jv 2 aQ l (aj 1 aU l)=True:=aeS (λ_=>rfl) l
attribute [go_sem] ahy aeD
attribute [go_sem] ahz bW ael
abbrev afi:=List (Nat×Int×Int)
def KG (x:Nat×Int×Int):List D:=[.fn x.1,.int .i64 x.2.1,.int .i64 x.2.2]
theorem ama (x:Nat×Int×Int):KG x=[.fn x.1,.int .i64 x.2.1,.int .i64 x.2.2]:=by rw [KG]
def adY:List D->Nat×Int×Int
 | [.fn a,.int _ b,.int _ c]=>(a,b,c)
 | _=>default
theorem al5 (x:Nat×Int×Int):adY (KG x)=x:=by rfl
theorem ahC (l:List (Nat×Int×Int)):aN adY (aj 3 KG l)=l:=iI _ _ _ _ al5
attribute [go_sem] ama adY ahC
abbrev aT:=List (Int×Int×Int×Int)
def bV (x:Int×Int×Int×Int):List D:=[.int .i64 x.1,.int .i64 x.2.1,.int .i64 x.2.2.1,.int .i64 x.2.2.2]
theorem X0 (x:Int×Int×Int×Int):bV x=[.int .i64 x.1,.int .i64 x.2.1,.int .i64 x.2.2.1,.int .i64 x.2.2.2]:=by rw [bV]
def jo:List D->Int×Int×Int×Int
 | [.int _ a,.int _ b,.int _ c,.int _ d]=>(a,b,c,d)
 | _=>default
theorem XV (x:Int×Int×Int×Int):jo (bV x)=x:=by rfl
theorem aem (l:List (Int×Int×Int×Int)):aN jo (aj 4 bV l)=l:=iI _ _ _ _ XV
theorem ahn (l:List (Int×Int×Int×Int)):(aj 4 bV l).flat=True:=rY (λ_=>rfl)
attribute [go_sem] X0 jo aem ahn
theorem ahA (o:Option (Int×Int×Int×Int)):decP jo (.pt o.isSome [.int .i64 (o.getD default).1,.int .i64 (o.getD default).2.1,.int .i64 (o.getD default).2.2.1,.int .i64 (o.getD default).2.2.2])=o:=by have:=sF XV o; rwa [X0] at this
attribute [go_sem] ahA
abbrev aG:=List (Int×Int×Int×Int×Int)
def bI (x:Int×Int×Int×Int×Int):List D:=[.int .i64 x.1,.int .i64 x.2.1,.int .i64 x.2.2.1,.int .i64 x.2.2.2.1,.int .i64 x.2.2.2.2]
theorem Rl (x:Int×Int×Int×Int×Int):bI x=[.int .i64 x.1,.int .i64 x.2.1,.int .i64 x.2.2.1,.int .i64 x.2.2.2.1,.int .i64 x.2.2.2.2]:=by rw [bI]
def gq:List D->Int×Int×Int×Int×Int
 | [.int _ a,.int _ b,.int _ c,.int _ d,.int _ e]=>(a,b,c,d,e)
 | _=>default
theorem QS (x:Int×Int×Int×Int×Int):gq (bI x)=x:=by rfl
theorem aam (l:List (Int×Int×Int×Int×Int)):aN gq (aj 5 bI l)=l:=iI _ _ _ _ QS
theorem adZ (l:List (Int×Int×Int×Int×Int)):(aj 5 bI l).flat=True:=rY (λ_=>rfl)
attribute [go_sem] Rl gq aam adZ
theorem aek (o:Option (Int×Int×Int×Int×Int)):decP gq (.pt o.isSome [.int .i64 (o.getD default).1,.int .i64 (o.getD default).2.1,.int .i64 (o.getD default).2.2.1,.int .i64 (o.getD default).2.2.2.1,.int .i64 (o.getD default).2.2.2.2])=o:=by have:=sF QS o; rwa [Rl] at this
attribute [go_sem] aek
abbrev aJ:=List (Int×Int×Int)
def bU (x:Int×Int×Int):List D:=[.int .i64 x.1,.int .i64 x.2.1,.int .i64 x.2.2]
theorem aej (x:Int×Int×Int):bU x=[.int .i64 x.1,.int .i64 x.2.1,.int .i64 x.2.2]:=by rw [bU]
def jc:List D->Int×Int×Int
 | [.int _ a,.int _ b,.int _ c]=>(a,b,c)
 | _=>default
theorem adX (x:Int×Int×Int):jc (bU x)=x:=by rfl
theorem ahB (l:List (Int×Int×Int)):aN jc (aj 3 bU l)=l:=iI _ _ _ _ adX
theorem al6 (l:List (Int×Int×Int)):(aj 3 bU l).flat=True:=rY (λ_=>rfl)
attribute [go_sem] aej jc ahB al6
theorem amb (o:Option (Int×Int×Int)):decP jc (.pt o.isSome [.int .i64 (o.getD default).1,.int .i64 (o.getD default).2.1,.int .i64 (o.getD default).2.2])=o:=by have:=sF adX o; rwa [aej] at this
attribute [go_sem] amb
abbrev bP:=List (Int×(List (Int×Int))×Int)
def bM (x:Int×aA×Int):List D:=[.int .i64 x.1,aj 2 aQ x.2.1,.int .i64 x.2.2]
theorem KF (x:Int×aA×Int):bM x=[.int .i64 x.1,aj 2 aQ x.2.1,.int .i64 x.2.2]:=by rw [bM]
def rX:List D->Int×aA×Int
 | [.int _ a,b,.int _ c]=>(a,aN bZ b,c)
 | _=>default
theorem Kq (x:Int×aA×Int):rX (bM x)=x:=by simp only [rX,bM,NU]
theorem Vo (l:List (Int×aA×Int)):aN rX (aj 3 bM l)=l:=iI _ _ _ _ Kq
attribute [go_sem] KF rX Vo
theorem aal (o:Option (Int×aA×Int)):decP rX (.pt o.isSome [.int .i64 (o.getD default).1,aj 2 aQ (o.getD default).2.1,.int .i64 (o.getD default).2.2])=o:=by have:=sF Kq o; rwa [KF] at this
attribute [go_sem] aal
abbrev fK:=List ((List (Int×Int))×Int×Int)
def jq (x:aA×Int×Int):List D:=[aj 2 aQ x.1,.int .i64 x.2.1,.int .i64 x.2.2]
theorem aai (x:aA×Int×Int):jq x=[aj 2 aQ x.1,.int .i64 x.2.1,.int .i64 x.2.2]:=by rw [jq]
def pW:List D->aA×Int×Int
 | [a,.int _ b,.int _ c]=>(aN bZ a,b,c)
 | _=>default
theorem ZR (x:aA×Int×Int):pW (jq x)=x:=by simp only [pW,jq,NU]
theorem Vl (l:List (aA×Int×Int)):aN pW (aj 3 jq l)=l:=iI _ _ _ _ ZR
attribute [go_sem] aai pW Vl
abbrev sK:=List ((List (Int))×(List (Int)))
def mP (x:aV×aV):List D:=[aj 1 dh x.1,aj 1 dh x.2]
theorem aaj (x:aV×aV):mP x=[aj 1 dh x.1,aj 1 dh x.2]:=by rw [mP]
def Ak:List D->aV×aV
 | [a,b]=>(aN kV a,aN kV b)
 | _=>default
theorem ZT (x:aV×aV):Ak (mP x)=x:=by simp only [Ak,mP,aen,aen]
theorem Vm (l:List (aV×aV)):aN Ak (aj 2 mP l)=l:=iI _ _ _ _ ZT
attribute [go_sem] aaj Ak Vm
abbrev L_S:=List (ByteArray)
def d_S (x:ByteArray):List D:=[.str x]
theorem aEj (x:ByteArray):d_S x=[.str x]:=by rw [d_S]
def g_S:List D->ByteArray
 | [.str a]=>a
 | _=>default
theorem aD0 (x:ByteArray):g_S (d_S x)=x:=by rfl
theorem awY (l:List (ByteArray)):aN g_S (aj 1 d_S l)=l:=iI _ _ _ _ aD0
theorem aD3 (l:List (ByteArray)):(aj 1 d_S l).flat=True:=rY (λ_=>rfl)
attribute [go_sem] aEj g_S awY aD3
attribute [go_sem] yM Option.isSome_none
theorem w0:(IntKind.i64.wrap (0+1))=1:=by first | rfl | decide | simp
theorem w1:(decide ((0:Int)>0))=false:=by first | rfl | decide | simp
theorem w2:(decide ((1:Int)<=60))=true:=by first | rfl | decide | simp
theorem w3:((((0:Int)) == 0))=true:=by first | rfl | decide | simp
theorem w4:((((0:Int)) != 0))=false:=by first | rfl | decide | simp
theorem w5:((((0:Int)) == 200))=false:=by first | rfl | decide | simp
theorem w6:(IntKind.i64.wrap (0+2))=2:=by first | rfl | decide | simp
theorem w7:(IntKind.i64.wrap (1+1))=2:=by first | rfl | decide | simp
theorem w8:(IntKind.i64.wrap (1+2))=3:=by first | rfl | decide | simp
theorem w9:((((8:Int)) != 0))=true:=by first | rfl | decide | simp
theorem w10:(decide ((0:Int)<4))=true:=by first | rfl | decide | simp
theorem w11:(decide ((1:Int)<4))=true:=by first | rfl | decide | simp
theorem w12:(((1:Int)=0\/(0:Int)<1))=True:=by first | rfl | decide | simp
theorem w13:(decide ((2:Int)<4))=true:=by first | rfl | decide | simp
theorem w14:(((2:Int)=0\/(0:Int)<2))=True:=by first | rfl | decide | simp
theorem w15:(IntKind.i64.wrap (2+1))=3:=by first | rfl | decide | simp
theorem w16:(decide ((3:Int)<4))=true:=by first | rfl | decide | simp
theorem w17:(((3:Int)=0\/(0:Int)<3))=True:=by first | rfl | decide | simp
theorem w18:(IntKind.i64.wrap (3+1))=4:=by first | rfl | decide | simp
theorem w19:(decide ((4:Int)<4))=false:=by first | rfl | decide | simp
theorem w20:(decide ((0:Int)>=0))=true:=by first | rfl | decide | simp
theorem w21:(decide ((-1:Int)>=0))=false:=by first | rfl | decide | simp
theorem w22:(((3:Nat):Int))=3:=by first | rfl | decide | simp
theorem w23:(decide ((0:Int)<3))=true:=by first | rfl | decide | simp
theorem w24:(decide ((1:Int)<3))=true:=by first | rfl | decide | simp
theorem w25:(decide ((2:Int)<3))=true:=by first | rfl | decide | simp
theorem w26:(decide ((3:Int)<3))=false:=by first | rfl | decide | simp
theorem w27:(decide ((0:Int)<7))=true:=by first | rfl | decide | simp
theorem w28:(decide ((1:Int)<7))=true:=by first | rfl | decide | simp
theorem w29:(decide ((2:Int)<7))=true:=by first | rfl | decide | simp
theorem w30:(decide ((3:Int)<7))=true:=by first | rfl | decide | simp
theorem w31:(decide ((4:Int)<7))=true:=by first | rfl | decide | simp
theorem w32:(((4:Int)=0\/(0:Int)<4))=True:=by first | rfl | decide | simp
theorem w33:(IntKind.i64.wrap (4+1))=5:=by first | rfl | decide | simp
theorem w34:(decide ((5:Int)<7))=true:=by first | rfl | decide | simp
theorem w35:(((5:Int)=0\/(0:Int)<5))=True:=by first | rfl | decide | simp
theorem w36:(IntKind.i64.wrap (5+1))=6:=by first | rfl | decide | simp
theorem w37:(decide ((6:Int)<7))=true:=by first | rfl | decide | simp
theorem w38:(((6:Int)=0\/(0:Int)<6))=True:=by first | rfl | decide | simp
theorem w39:(IntKind.i64.wrap (6+1))=7:=by first | rfl | decide | simp
theorem w40:(decide ((7:Int)<7))=false:=by first | rfl | decide | simp
theorem w41:(decide ((0:Int)<201))=true:=by first | rfl | decide | simp
theorem w42:(((#[117,110,116,105,108,32,54,53,48,32,52,48,48,32,53,59,113,117,101,110,99,104,32,49,32,51]:Array UInt8).size:Int))=26:=by first | rfl | decide | simp
theorem w43:(decide ((26:Int)>2000))=false:=by first | rfl | decide | simp
theorem w44:(decide ((5:Int)<0))=false:=by first | rfl | decide | simp
theorem w45:((⟨#[117,110,116,105,108,32,54,53,48,32,52,48,48,32,53,59,113,117,101,110,99,104,32,49,32,51]⟩:ByteArray).extract 0 5)=(⟨#[117,110,116,105,108]⟩:ByteArray):=by first | rfl | decide | simp
theorem w46:((⟨#[117,110,116,105,108,32,54,53,48,32,52,48,48,32,53,59,113,117,101,110,99,104,32,49,32,51]⟩:ByteArray).extract 5 26)=(⟨#[32,54,53,48,32,52,48,48,32,53,59,113,117,101,110,99,104,32,49,32,51]⟩:ByteArray):=by first | rfl | decide | simp
theorem w47:(decide ((0:Int)<6))=true:=by first | rfl | decide | simp
theorem w48:(decide ((⟨#[117,110,116,105,108]⟩:ByteArray)=(⟨#[104,101,97,116]⟩:ByteArray)))=false:=by first | rfl | decide | simp
theorem w49:(decide ((1:Int)<6))=true:=by first | rfl | decide | simp
theorem w50:(decide ((⟨#[117,110,116,105,108]⟩:ByteArray)=(⟨#[100,119,101,108,108]⟩:ByteArray)))=false:=by first | rfl | decide | simp
theorem w51:(decide ((2:Int)<6))=true:=by first | rfl | decide | simp
theorem w52:(decide ((⟨#[117,110,116,105,108]⟩:ByteArray)=(⟨#[113,117,101,110,99,104]⟩:ByteArray)))=false:=by first | rfl | decide | simp
theorem w53:(decide ((3:Int)<6))=true:=by first | rfl | decide | simp
theorem w54:(decide ((⟨#[117,110,116,105,108]⟩:ByteArray)=(⟨#[117,110,116,105,108]⟩:ByteArray)))=true:=by first | rfl | decide | simp
theorem w55:(decide ((3:Int)<0))=false:=by first | rfl | decide | simp
theorem w56:(((#[54,53,48,32,52,48,48,32,53,59,113,117,101,110,99,104,32,49,32,51]:Array UInt8).size:Int))=20:=by first | rfl | decide | simp
theorem w57:((⟨#[54,53,48,32,52,48,48,32,53,59,113,117,101,110,99,104,32,49,32,51]⟩:ByteArray).extract 0 3)=(⟨#[54,53,48]⟩:ByteArray):=by first | rfl | decide | simp
theorem w58:((⟨#[54,53,48,32,52,48,48,32,53,59,113,117,101,110,99,104,32,49,32,51]⟩:ByteArray).extract 3 20)=(⟨#[32,52,48,48,32,53,59,113,117,101,110,99,104,32,49,32,51]⟩:ByteArray):=by first | rfl | decide | simp
theorem w59:(((#[52,48,48,32,53,59,113,117,101,110,99,104,32,49,32,51]:Array UInt8).size:Int))=16:=by first | rfl | decide | simp
theorem w60:((⟨#[52,48,48,32,53,59,113,117,101,110,99,104,32,49,32,51]⟩:ByteArray).extract 0 3)=(⟨#[52,48,48]⟩:ByteArray):=by first | rfl | decide | simp
theorem w61:((⟨#[52,48,48,32,53,59,113,117,101,110,99,104,32,49,32,51]⟩:ByteArray).extract 3 16)=(⟨#[32,53,59,113,117,101,110,99,104,32,49,32,51]⟩:ByteArray):=by first | rfl | decide | simp
theorem w62:(decide ((1:Int)<0))=false:=by first | rfl | decide | simp
theorem w63:(((#[53,59,113,117,101,110,99,104,32,49,32,51]:Array UInt8).size:Int))=12:=by first | rfl | decide | simp
theorem w64:((⟨#[53,59,113,117,101,110,99,104,32,49,32,51]⟩:ByteArray).extract 0 1)=(⟨#[53]⟩:ByteArray):=by first | rfl | decide | simp
theorem w65:((⟨#[53,59,113,117,101,110,99,104,32,49,32,51]⟩:ByteArray).extract 1 12)=(⟨#[59,113,117,101,110,99,104,32,49,32,51]⟩:ByteArray):=by first | rfl | decide | simp
theorem w66:((((3:Int)) != 5))=true:=by first | rfl | decide | simp
theorem w67:(decide ((6:Int)<0))=false:=by first | rfl | decide | simp
theorem w68:(((#[113,117,101,110,99,104,32,49,32,51]:Array UInt8).size:Int))=10:=by first | rfl | decide | simp
theorem w69:((⟨#[113,117,101,110,99,104,32,49,32,51]⟩:ByteArray).extract 0 6)=(⟨#[113,117,101,110,99,104]⟩:ByteArray):=by first | rfl | decide | simp
theorem w70:((⟨#[113,117,101,110,99,104,32,49,32,51]⟩:ByteArray).extract 6 10)=(⟨#[32,49,32,51]⟩:ByteArray):=by first | rfl | decide | simp
theorem w71:(decide ((⟨#[113,117,101,110,99,104]⟩:ByteArray)=(⟨#[104,101,97,116]⟩:ByteArray)))=false:=by first | rfl | decide | simp
theorem w72:(decide ((⟨#[113,117,101,110,99,104]⟩:ByteArray)=(⟨#[100,119,101,108,108]⟩:ByteArray)))=false:=by first | rfl | decide | simp
theorem w73:(decide ((⟨#[113,117,101,110,99,104]⟩:ByteArray)=(⟨#[113,117,101,110,99,104]⟩:ByteArray)))=true:=by first | rfl | decide | simp
theorem w74:(((2:Nat):Int))=2:=by first | rfl | decide | simp
theorem w75:(decide ((0:Int)<2))=true:=by first | rfl | decide | simp
theorem w76:(((#[49,32,51]:Array UInt8).size:Int))=3:=by first | rfl | decide | simp
theorem w77:((⟨#[49,32,51]⟩:ByteArray).extract 0 1)=(⟨#[49]⟩:ByteArray):=by first | rfl | decide | simp
theorem w78:((⟨#[49,32,51]⟩:ByteArray).extract 1 3)=(⟨#[32,51]⟩:ByteArray):=by first | rfl | decide | simp
theorem w79:(decide ((1:Int)<2))=true:=by first | rfl | decide | simp
theorem w80:(decide ((-1:Int)<0))=true:=by first | rfl | decide | simp
theorem w81:(((#[51]:Array UInt8).size:Int))=1:=by first | rfl | decide | simp
theorem w82:((⟨#[51]⟩:ByteArray).extract 0 1)=(⟨#[51]⟩:ByteArray):=by first | rfl | decide | simp
theorem w83:((⟨#[51]⟩:ByteArray).extract 1 1)=(⟨#[]⟩:ByteArray):=by first | rfl | decide | simp
theorem w84:(decide ((2:Int)<2))=false:=by first | rfl | decide | simp
theorem w85:((((2:Int)) != 5))=true:=by first | rfl | decide | simp
theorem w86:(decide ((⟨#[]⟩:ByteArray)=(⟨#[]⟩:ByteArray)))=true:=by first | rfl | decide | simp
theorem w87:(IntKind.i64.wrap (1 - 1))=0:=by first | rfl | decide | simp
theorem w88:(IntKind.i64.wrap (2 - 1))=1:=by first | rfl | decide | simp
theorem w89:(IntKind.i64.wrap (3 - 1))=2:=by first | rfl | decide | simp
theorem w90:(decide ((0:Int)<5))=true:=by first | rfl | decide | simp
attribute [go_sem] w0 w1 w2 w3 w4 w5 w6 w7 w8 w9 w10 w11 w12 w13 w14 w15 w16 w17 w18 w19 w20 w21 w22 w23 w24 w25 w26 w27 w28 w29 w30 w31 w32 w33 w34 w35 w36 w37 w38 w39 w40 w41 w42 w43 w44 w45 w46 w47 w48 w49 w50 w51 w52 w53 w54 w55 w56 w57 w58 w59 w60 w61 w62 w63 w64 w65 w66 w67 w68 w69 w70 w71 w72 w73 w74 w75 w76 w77 w78 w79 w80 w81 w82 w83 w84 w85 w86 w87 w88 w89 w90
section
variable {γ a0 a1 a2 a3 a4 a5 a6 a7 a8 a9 a10 a11 a12 jE jR kJ a16 a17 ng oO a20 a21 a22 a23 a24 a25 a26 a27 a28 a29:Type} (x:Unit) (x0:a0) (x1:a1) (x2:a2) (x3:a3) (x4:a4) (x5:a5) (x6:a6) (x7:a7) (x8:a8) (x9:a9) (x10:a10) (x11:a11) (x12:a12) (cO:jE) (x14:jR) (x15:kJ) (x16:a16) (x17:a17) (x18:ng) (x19:oO) (x20:a20) (x21:a21) (oz:a22) (x23:a23) (x24:a24) (x25:a25) (uO:a26) (x27:a27) (x28:a28) (x29:a29)
def u0 (f:γ):Unit->γ:=λ_=>f
theorem uq0 (f:γ):u0 f x=f:=(rfl)
def u1 (f:a0->γ):a0->γ:=f
theorem sQ (f:a0->γ):u1 f x0=f x0:=(rfl)
def u2 (f:a0->a1->γ):a0×a1->γ:=λ(x0,x1)=>f x0 x1
theorem DV (f:a0->a1->γ):u2 f (x0,x1)=f x0 x1:=(rfl)
def u3 (f:a0->a1->a2->γ):a0×a1×a2->γ:=λ(x0,x1,x2)=>f x0 x1 x2
theorem uq3 (f:a0->a1->a2->γ):u3 f (x0,x1,x2)=f x0 x1 x2:=(rfl)
def u4 (f:a0->a1->a2->a3->γ):a0×a1×a2×a3->γ:=λ(x0,x1,x2,x3)=>f x0 x1 x2 x3
theorem uq4 (f:a0->a1->a2->a3->γ):u4 f (x0,x1,x2,x3)=f x0 x1 x2 x3:=(rfl)
def u5 (f:a0->a1->a2->a3->a4->γ):a0×a1×a2×a3×a4->γ:=λ(x0,x1,x2,x3,x4)=>f x0 x1 x2 x3 x4
theorem uq5 (f:a0->a1->a2->a3->a4->γ):u5 f (x0,x1,x2,x3,x4)=f x0 x1 x2 x3 x4:=(rfl)
def u6 (f:a0->a1->a2->a3->a4->a5->γ):a0×a1×a2×a3×a4×a5->γ:=λ(x0,x1,x2,x3,x4,x5)=>f x0 x1 x2 x3 x4 x5
theorem uq6 (f:a0->a1->a2->a3->a4->a5->γ):u6 f (x0,x1,x2,x3,x4,x5)=f x0 x1 x2 x3 x4 x5:=(rfl)
def u7 (f:a0->a1->a2->a3->a4->a5->a6->γ):a0×a1×a2×a3×a4×a5×a6->γ:=λ(x0,x1,x2,x3,x4,x5,x6)=>f x0 x1 x2 x3 x4 x5 x6
theorem OJ (f:a0->a1->a2->a3->a4->a5->a6->γ):u7 f (x0,x1,x2,x3,x4,x5,x6)=f x0 x1 x2 x3 x4 x5 x6:=(rfl)
def u8 (f:a0->a1->a2->a3->a4->a5->a6->a7->γ):a0×a1×a2×a3×a4×a5×a6×a7->γ:=λ(x0,x1,x2,x3,x4,x5,x6,x7)=>f x0 x1 x2 x3 x4 x5 x6 x7
theorem uq8 (f:a0->a1->a2->a3->a4->a5->a6->a7->γ):u8 f (x0,x1,x2,x3,x4,x5,x6,x7)=f x0 x1 x2 x3 x4 x5 x6 x7:=(rfl)
def u9 (f:a0->a1->a2->a3->a4->a5->a6->a7->a8->γ):a0×a1×a2×a3×a4×a5×a6×a7×a8->γ:=λ(x0,x1,x2,x3,x4,x5,x6,x7,x8)=>f x0 x1 x2 x3 x4 x5 x6 x7 x8
theorem RY (f:a0->a1->a2->a3->a4->a5->a6->a7->a8->γ):u9 f (x0,x1,x2,x3,x4,x5,x6,x7,x8)=f x0 x1 x2 x3 x4 x5 x6 x7 x8:=(rfl)
def u10 (f:a0->a1->a2->a3->a4->a5->a6->a7->a8->a9->γ):a0×a1×a2×a3×a4×a5×a6×a7×a8×a9->γ:=λ(x0,x1,x2,x3,x4,x5,x6,x7,x8,x9)=>f x0 x1 x2 x3 x4 x5 x6 x7 x8 x9
theorem Sz (f:a0->a1->a2->a3->a4->a5->a6->a7->a8->a9->γ):u10 f (x0,x1,x2,x3,x4,x5,x6,x7,x8,x9)=f x0 x1 x2 x3 x4 x5 x6 x7 x8 x9:=(rfl)
def u11 (f:a0->a1->a2->a3->a4->a5->a6->a7->a8->a9->a10->γ):a0×a1×a2×a3×a4×a5×a6×a7×a8×a9×a10->γ:=λ(x0,x1,x2,x3,x4,x5,x6,x7,x8,x9,x10)=>f x0 x1 x2 x3 x4 x5 x6 x7 x8 x9 x10
theorem afw (f:a0->a1->a2->a3->a4->a5->a6->a7->a8->a9->a10->γ):u11 f (x0,x1,x2,x3,x4,x5,x6,x7,x8,x9,x10)=f x0 x1 x2 x3 x4 x5 x6 x7 x8 x9 x10:=(rfl)
def u12 (f:a0->a1->a2->a3->a4->a5->a6->a7->a8->a9->a10->a11->γ):a0×a1×a2×a3×a4×a5×a6×a7×a8×a9×a10×a11->γ:=λ(x0,x1,x2,x3,x4,x5,x6,x7,x8,x9,x10,x11)=>f x0 x1 x2 x3 x4 x5 x6 x7 x8 x9 x10 x11
theorem anI (f:a0->a1->a2->a3->a4->a5->a6->a7->a8->a9->a10->a11->γ):u12 f (x0,x1,x2,x3,x4,x5,x6,x7,x8,x9,x10,x11)=f x0 x1 x2 x3 x4 x5 x6 x7 x8 x9 x10 x11:=(rfl)
def u14 (f:a0->a1->a2->a3->a4->a5->a6->a7->a8->a9->a10->a11->a12->jE->γ):a0×a1×a2×a3×a4×a5×a6×a7×a8×a9×a10×a11×a12×jE->γ:=λ(x0,x1,x2,x3,x4,x5,x6,x7,x8,x9,x10,x11,x12,cO)=>f x0 x1 x2 x3 x4 x5 x6 x7 x8 x9 x10 x11 x12 cO
theorem ajP (f:a0->a1->a2->a3->a4->a5->a6->a7->a8->a9->a10->a11->a12->jE->γ):u14 f (x0,x1,x2,x3,x4,x5,x6,x7,x8,x9,x10,x11,x12,cO)=f x0 x1 x2 x3 x4 x5 x6 x7 x8 x9 x10 x11 x12 cO:=(rfl)
def u15 (f:a0->a1->a2->a3->a4->a5->a6->a7->a8->a9->a10->a11->a12->jE->jR->γ):a0×a1×a2×a3×a4×a5×a6×a7×a8×a9×a10×a11×a12×jE×jR->γ:=λ(x0,x1,x2,x3,x4,x5,x6,x7,x8,x9,x10,x11,x12,cO,x14)=>f x0 x1 x2 x3 x4 x5 x6 x7 x8 x9 x10 x11 x12 cO x14
theorem azE (f:a0->a1->a2->a3->a4->a5->a6->a7->a8->a9->a10->a11->a12->jE->jR->γ):u15 f (x0,x1,x2,x3,x4,x5,x6,x7,x8,x9,x10,x11,x12,cO,x14)=f x0 x1 x2 x3 x4 x5 x6 x7 x8 x9 x10 x11 x12 cO x14:=(rfl)
def u16 (f:a0->a1->a2->a3->a4->a5->a6->a7->a8->a9->a10->a11->a12->jE->jR->kJ->γ):a0×a1×a2×a3×a4×a5×a6×a7×a8×a9×a10×a11×a12×jE×jR×kJ->γ:=λ(x0,x1,x2,x3,x4,x5,x6,x7,x8,x9,x10,x11,x12,cO,x14,x15)=>f x0 x1 x2 x3 x4 x5 x6 x7 x8 x9 x10 x11 x12 cO x14 x15
theorem anH (f:a0->a1->a2->a3->a4->a5->a6->a7->a8->a9->a10->a11->a12->jE->jR->kJ->γ):u16 f (x0,x1,x2,x3,x4,x5,x6,x7,x8,x9,x10,x11,x12,cO,x14,x15)=f x0 x1 x2 x3 x4 x5 x6 x7 x8 x9 x10 x11 x12 cO x14 x15:=(rfl)
def u17 (f:a0->a1->a2->a3->a4->a5->a6->a7->a8->a9->a10->a11->a12->jE->jR->kJ->a16->γ):a0×a1×a2×a3×a4×a5×a6×a7×a8×a9×a10×a11×a12×jE×jR×kJ×a16->γ:=λ(x0,x1,x2,x3,x4,x5,x6,x7,x8,x9,x10,x11,x12,cO,x14,x15,x16)=>f x0 x1 x2 x3 x4 x5 x6 x7 x8 x9 x10 x11 x12 cO x14 x15 x16
theorem anG (f:a0->a1->a2->a3->a4->a5->a6->a7->a8->a9->a10->a11->a12->jE->jR->kJ->a16->γ):u17 f (x0,x1,x2,x3,x4,x5,x6,x7,x8,x9,x10,x11,x12,cO,x14,x15,x16)=f x0 x1 x2 x3 x4 x5 x6 x7 x8 x9 x10 x11 x12 cO x14 x15 x16:=(rfl)
def u18 (f:a0->a1->a2->a3->a4->a5->a6->a7->a8->a9->a10->a11->a12->jE->jR->kJ->a16->a17->γ):a0×a1×a2×a3×a4×a5×a6×a7×a8×a9×a10×a11×a12×jE×jR×kJ×a16×a17->γ:=λ(x0,x1,x2,x3,x4,x5,x6,x7,x8,x9,x10,x11,x12,cO,x14,x15,x16,x17)=>f x0 x1 x2 x3 x4 x5 x6 x7 x8 x9 x10 x11 x12 cO x14 x15 x16 x17
theorem anF (f:a0->a1->a2->a3->a4->a5->a6->a7->a8->a9->a10->a11->a12->jE->jR->kJ->a16->a17->γ):u18 f (x0,x1,x2,x3,x4,x5,x6,x7,x8,x9,x10,x11,x12,cO,x14,x15,x16,x17)=f x0 x1 x2 x3 x4 x5 x6 x7 x8 x9 x10 x11 x12 cO x14 x15 x16 x17:=(rfl)
def u19 (f:a0->a1->a2->a3->a4->a5->a6->a7->a8->a9->a10->a11->a12->jE->jR->kJ->a16->a17->ng->γ):a0×a1×a2×a3×a4×a5×a6×a7×a8×a9×a10×a11×a12×jE×jR×kJ×a16×a17×ng->γ:=λ(x0,x1,x2,x3,x4,x5,x6,x7,x8,x9,x10,x11,x12,cO,x14,x15,x16,x17,x18)=>f x0 x1 x2 x3 x4 x5 x6 x7 x8 x9 x10 x11 x12 cO x14 x15 x16 x17 x18
theorem OL (f:a0->a1->a2->a3->a4->a5->a6->a7->a8->a9->a10->a11->a12->jE->jR->kJ->a16->a17->ng->γ):u19 f (x0,x1,x2,x3,x4,x5,x6,x7,x8,x9,x10,x11,x12,cO,x14,x15,x16,x17,x18)=f x0 x1 x2 x3 x4 x5 x6 x7 x8 x9 x10 x11 x12 cO x14 x15 x16 x17 x18:=(rfl)
def u20 (f:a0->a1->a2->a3->a4->a5->a6->a7->a8->a9->a10->a11->a12->jE->jR->kJ->a16->a17->ng->oO->γ):a0×a1×a2×a3×a4×a5×a6×a7×a8×a9×a10×a11×a12×jE×jR×kJ×a16×a17×ng×oO->γ:=λ(x0,x1,x2,x3,x4,x5,x6,x7,x8,x9,x10,x11,x12,cO,x14,x15,x16,x17,x18,x19)=>f x0 x1 x2 x3 x4 x5 x6 x7 x8 x9 x10 x11 x12 cO x14 x15 x16 x17 x18 x19
theorem afv (f:a0->a1->a2->a3->a4->a5->a6->a7->a8->a9->a10->a11->a12->jE->jR->kJ->a16->a17->ng->oO->γ):u20 f (x0,x1,x2,x3,x4,x5,x6,x7,x8,x9,x10,x11,x12,cO,x14,x15,x16,x17,x18,x19)=f x0 x1 x2 x3 x4 x5 x6 x7 x8 x9 x10 x11 x12 cO x14 x15 x16 x17 x18 x19:=(rfl)
def u21 (f:a0->a1->a2->a3->a4->a5->a6->a7->a8->a9->a10->a11->a12->jE->jR->kJ->a16->a17->ng->oO->a20->γ):a0×a1×a2×a3×a4×a5×a6×a7×a8×a9×a10×a11×a12×jE×jR×kJ×a16×a17×ng×oO×a20->γ:=λ(x0,x1,x2,x3,x4,x5,x6,x7,x8,x9,x10,x11,x12,cO,x14,x15,x16,x17,x18,x19,x20)=>f x0 x1 x2 x3 x4 x5 x6 x7 x8 x9 x10 x11 x12 cO x14 x15 x16 x17 x18 x19 x20
theorem anE (f:a0->a1->a2->a3->a4->a5->a6->a7->a8->a9->a10->a11->a12->jE->jR->kJ->a16->a17->ng->oO->a20->γ):u21 f (x0,x1,x2,x3,x4,x5,x6,x7,x8,x9,x10,x11,x12,cO,x14,x15,x16,x17,x18,x19,x20)=f x0 x1 x2 x3 x4 x5 x6 x7 x8 x9 x10 x11 x12 cO x14 x15 x16 x17 x18 x19 x20:=(rfl)
def u22 (f:a0->a1->a2->a3->a4->a5->a6->a7->a8->a9->a10->a11->a12->jE->jR->kJ->a16->a17->ng->oO->a20->a21->γ):a0×a1×a2×a3×a4×a5×a6×a7×a8×a9×a10×a11×a12×jE×jR×kJ×a16×a17×ng×oO×a20×a21->γ:=λ(x0,x1,x2,x3,x4,x5,x6,x7,x8,x9,x10,x11,x12,cO,x14,x15,x16,x17,x18,x19,x20,x21)=>f x0 x1 x2 x3 x4 x5 x6 x7 x8 x9 x10 x11 x12 cO x14 x15 x16 x17 x18 x19 x20 x21
theorem anD (f:a0->a1->a2->a3->a4->a5->a6->a7->a8->a9->a10->a11->a12->jE->jR->kJ->a16->a17->ng->oO->a20->a21->γ):u22 f (x0,x1,x2,x3,x4,x5,x6,x7,x8,x9,x10,x11,x12,cO,x14,x15,x16,x17,x18,x19,x20,x21)=f x0 x1 x2 x3 x4 x5 x6 x7 x8 x9 x10 x11 x12 cO x14 x15 x16 x17 x18 x19 x20 x21:=(rfl)
def u23 (f:a0->a1->a2->a3->a4->a5->a6->a7->a8->a9->a10->a11->a12->jE->jR->kJ->a16->a17->ng->oO->a20->a21->a22->γ):a0×a1×a2×a3×a4×a5×a6×a7×a8×a9×a10×a11×a12×jE×jR×kJ×a16×a17×ng×oO×a20×a21×a22->γ:=λ(x0,x1,x2,x3,x4,x5,x6,x7,x8,x9,x10,x11,x12,cO,x14,x15,x16,x17,x18,x19,x20,x21,oz)=>f x0 x1 x2 x3 x4 x5 x6 x7 x8 x9 x10 x11 x12 cO x14 x15 x16 x17 x18 x19 x20 x21 oz
theorem afu (f:a0->a1->a2->a3->a4->a5->a6->a7->a8->a9->a10->a11->a12->jE->jR->kJ->a16->a17->ng->oO->a20->a21->a22->γ):u23 f (x0,x1,x2,x3,x4,x5,x6,x7,x8,x9,x10,x11,x12,cO,x14,x15,x16,x17,x18,x19,x20,x21,oz)=f x0 x1 x2 x3 x4 x5 x6 x7 x8 x9 x10 x11 x12 cO x14 x15 x16 x17 x18 x19 x20 x21 oz:=(rfl)
def u24 (f:a0->a1->a2->a3->a4->a5->a6->a7->a8->a9->a10->a11->a12->jE->jR->kJ->a16->a17->ng->oO->a20->a21->a22->a23->γ):a0×a1×a2×a3×a4×a5×a6×a7×a8×a9×a10×a11×a12×jE×jR×kJ×a16×a17×ng×oO×a20×a21×a22×a23->γ:=λ(x0,x1,x2,x3,x4,x5,x6,x7,x8,x9,x10,x11,x12,cO,x14,x15,x16,x17,x18,x19,x20,x21,oz,x23)=>f x0 x1 x2 x3 x4 x5 x6 x7 x8 x9 x10 x11 x12 cO x14 x15 x16 x17 x18 x19 x20 x21 oz x23
theorem anC (f:a0->a1->a2->a3->a4->a5->a6->a7->a8->a9->a10->a11->a12->jE->jR->kJ->a16->a17->ng->oO->a20->a21->a22->a23->γ):u24 f (x0,x1,x2,x3,x4,x5,x6,x7,x8,x9,x10,x11,x12,cO,x14,x15,x16,x17,x18,x19,x20,x21,oz,x23)=f x0 x1 x2 x3 x4 x5 x6 x7 x8 x9 x10 x11 x12 cO x14 x15 x16 x17 x18 x19 x20 x21 oz x23:=(rfl)
def u28 (f:a0->a1->a2->a3->a4->a5->a6->a7->a8->a9->a10->a11->a12->jE->jR->kJ->a16->a17->ng->oO->a20->a21->a22->a23->a24->a25->a26->a27->γ):a0×a1×a2×a3×a4×a5×a6×a7×a8×a9×a10×a11×a12×jE×jR×kJ×a16×a17×ng×oO×a20×a21×a22×a23×a24×a25×a26×a27->γ:=λ(x0,x1,x2,x3,x4,x5,x6,x7,x8,x9,x10,x11,x12,cO,x14,x15,x16,x17,x18,x19,x20,x21,oz,x23,x24,x25,uO,x27)=>f x0 x1 x2 x3 x4 x5 x6 x7 x8 x9 x10 x11 x12 cO x14 x15 x16 x17 x18 x19 x20 x21 oz x23 x24 x25 uO x27
theorem anB (f:a0->a1->a2->a3->a4->a5->a6->a7->a8->a9->a10->a11->a12->jE->jR->kJ->a16->a17->ng->oO->a20->a21->a22->a23->a24->a25->a26->a27->γ):u28 f (x0,x1,x2,x3,x4,x5,x6,x7,x8,x9,x10,x11,x12,cO,x14,x15,x16,x17,x18,x19,x20,x21,oz,x23,x24,x25,uO,x27)=f x0 x1 x2 x3 x4 x5 x6 x7 x8 x9 x10 x11 x12 cO x14 x15 x16 x17 x18 x19 x20 x21 oz x23 x24 x25 uO x27:=(rfl)
def u29 (f:a0->a1->a2->a3->a4->a5->a6->a7->a8->a9->a10->a11->a12->jE->jR->kJ->a16->a17->ng->oO->a20->a21->a22->a23->a24->a25->a26->a27->a28->γ):a0×a1×a2×a3×a4×a5×a6×a7×a8×a9×a10×a11×a12×jE×jR×kJ×a16×a17×ng×oO×a20×a21×a22×a23×a24×a25×a26×a27×a28->γ:=λ(x0,x1,x2,x3,x4,x5,x6,x7,x8,x9,x10,x11,x12,cO,x14,x15,x16,x17,x18,x19,x20,x21,oz,x23,x24,x25,uO,x27,x28)=>f x0 x1 x2 x3 x4 x5 x6 x7 x8 x9 x10 x11 x12 cO x14 x15 x16 x17 x18 x19 x20 x21 oz x23 x24 x25 uO x27 x28
theorem ajO (f:a0->a1->a2->a3->a4->a5->a6->a7->a8->a9->a10->a11->a12->jE->jR->kJ->a16->a17->ng->oO->a20->a21->a22->a23->a24->a25->a26->a27->a28->γ):u29 f (x0,x1,x2,x3,x4,x5,x6,x7,x8,x9,x10,x11,x12,cO,x14,x15,x16,x17,x18,x19,x20,x21,oz,x23,x24,x25,uO,x27,x28)=f x0 x1 x2 x3 x4 x5 x6 x7 x8 x9 x10 x11 x12 cO x14 x15 x16 x17 x18 x19 x20 x21 oz x23 x24 x25 uO x27 x28:=(rfl)
def u30 (f:a0->a1->a2->a3->a4->a5->a6->a7->a8->a9->a10->a11->a12->jE->jR->kJ->a16->a17->ng->oO->a20->a21->a22->a23->a24->a25->a26->a27->a28->a29->γ):a0×a1×a2×a3×a4×a5×a6×a7×a8×a9×a10×a11×a12×jE×jR×kJ×a16×a17×ng×oO×a20×a21×a22×a23×a24×a25×a26×a27×a28×a29->γ:=λ(x0,x1,x2,x3,x4,x5,x6,x7,x8,x9,x10,x11,x12,cO,x14,x15,x16,x17,x18,x19,x20,x21,oz,x23,x24,x25,uO,x27,x28,x29)=>f x0 x1 x2 x3 x4 x5 x6 x7 x8 x9 x10 x11 x12 cO x14 x15 x16 x17 x18 x19 x20 x21 oz x23 x24 x25 uO x27 x28 x29
theorem ajN (f:a0->a1->a2->a3->a4->a5->a6->a7->a8->a9->a10->a11->a12->jE->jR->kJ->a16->a17->ng->oO->a20->a21->a22->a23->a24->a25->a26->a27->a28->a29->γ):u30 f (x0,x1,x2,x3,x4,x5,x6,x7,x8,x9,x10,x11,x12,cO,x14,x15,x16,x17,x18,x19,x20,x21,oz,x23,x24,x25,uO,x27,x28,x29)=f x0 x1 x2 x3 x4 x5 x6 x7 x8 x9 x10 x11 x12 cO x14 x15 x16 x17 x18 x19 x20 x21 oz x23 x24 x25 uO x27 x28 x29:=(rfl)
end
attribute [go_sem] uq0 sQ DV uq3 uq4 uq5 uq6 OJ uq8 RY Sz afw anI ajP azE anH anG anF OL afv anE anD afu anC anB ajO ajN
theorem vm {α β:Type} [Inhabited β] {tb:qj} {f:Nat} {fn:Func} {c:Code} {n:Nat} {e:α->List Arg} {d:List Arg->α} {g:α->Option β} {u:β->List RV} {al:Bool} (htb:fM prog tb) (hf:prog.funcs[f]? =some fn) (hn:fn.ntmps=n) (h:∀ x r,g x=some r->∀ stop,ajx prog ty tb n fn al (u r) stop->stop [.code c] (St.begin (e x))) (hb:fn.body=some c:=by rfl) (hl:∀ x,(e x).length<=n:=by exact λ_=>nL rfl) (hm:(fn.name == "runtime.NumGoroutine")=false:=by decide):aF prog f (mkT e d g u al).sp:=
 VP cZ htb hf hb hn (λx r hr=>⟨hl x,h x r hr⟩) hm
attribute [go_sem] results4 results5 results6 results9 results17 results21 results22 results23 results24 results25 results26 results27 results28 results29 results30 results31 results32 results33 results34 results35 results36 results37 results38 results39 results40 results41 results42 results43 results44 results45 results46 results47 results48 results52 results56 results57 results58 results59 results60 results61 results62 results64 results65 results68 results70 results71 results77 results78 results79 results80 results81 results82 results83 results84 results85 results86 results87 results88 results89 results90 results91 results92 results93 results94 results95 results96 results97 results98 results99 results100 results101 results102 results103 results104 results105 results106 results107 results108 results109 results110 results111 results113 results114 results116 results117 results118 results119 results120 results121 results122 results123 results128 results135 results136 results137 results138 results139 results140 results141 results142 results143 results144 results145 results146 results147 results148 results149 results150 results151 results152 results153 results154 results155 results156 results157 results158 results159 results160 results161 results162 results163 results164 results165 results166 results167 results168 results169 results170 results171 results172 results173 results174 results175 results176 results178 results179 results180 results181 results182 results183 results188 results190 results191 results192 results193 results194 results195 results196 results197 results198 results199 results200 results201 results202 results203 results204 results206 results207 results208 results209 results210 results211 results212 results213 results214 results215 results216 results217 results218 results220 results221 results222 results223 results224 results225 results226 results227 results228 results229 results230 results231 results232 results233 results236 results237 results238 results239 results240 results241 results245 results246 results247 results248 results249 results250 results251 results252 results253 results254 results255 results256 results257 results258 results259 results260 results261 results262 results263 results264 results265 results266 results267 results268 results269 results270 results271 results272 results273 results274 results275 results276 results277 results278 results279 results280 results281 results282 results283 results284 results285 results286 results287 results288 results289 results297 results298 results299 results300 results301 results302 results303 results304 results305 results306 results307 results310 results316 results317 results318 results319 results320 results321 results330 results331 results332
section
variable {β:Type} [Inhabited β] (u:β->List RV) (al:Bool)
def qw0:List Arg:=[]
def qd0 (_:List Arg):Unit:=()
def qT0 (r:Option β):=mkT (u0 qw0) qd0 (u0 r) u al
attribute [go_sem] qw0 qd0 qT0
def qw1 (a0 a1 a2:Int):List Arg:=[.c (.int .i64 a0),.c (.int .i64 a1),.c (.int .i64 a2)]
def qd1:List Arg->Int×Int×Int
 | [.c c0,.c c1,.c c2]=>(aC c0,aC c1,aC c2)
 | _=>default
def qT1 (r:Int->Int->Int->Option β):=mkT (u3 qw1) qd1 (u3 r) u al
attribute [go_sem] qw1 qd1 qT1
def qw2 (a0:Bool) (a1:Int):List Arg:=[.c (.bool a0),.c (.int .i64 a1)]
def qd2:List Arg->Bool×Int
 | [.c c0,.c c1]=>(aeu c0,aC c1)
 | _=>default
def qT2 (r:Bool->Int->Option β):=mkT (u2 qw2) qd2 (u2 r) u al
attribute [go_sem] qw2 qd2 qT2
def qw3 (a0:aV):List Arg:=[.c (aj 1 dh a0)]
def qd3:List Arg->aV
 | [.c c0]=>aN kV c0
 | _=>default
def qT3 (r:aV->Option β):=mkT (u1 qw3) qd3 (u1 r) u al
attribute [go_sem] qw3 qd3 qT3
def qw4 (a0:Int):List Arg:=[.c (.int .i64 a0)]
def qd4:List Arg->Int
 | [.c c0]=>aC c0
 | _=>default
def OC (r:Int->Option β):=mkT (u1 qw4) qd4 (u1 r) u al
attribute [go_sem] qw4 qd4 OC
def qw5 (a0:aA):List Arg:=[.c (aj 2 aQ a0)]
def qd5:List Arg->aA
 | [.c c0]=>aN bZ c0
 | _=>default
def qT5 (r:aA->Option β):=mkT (u1 qw5) qd5 (u1 r) u al
attribute [go_sem] qw5 qd5 qT5
def qw6 (a0:au):List Arg:=[.c (aj 1 aU a0)]
def qd6:List Arg->au
 | [.c c0]=>aN bW c0
 | _=>default
def qT6 (r:au->Option β):=mkT (u1 qw6) qd6 (u1 r) u al
attribute [go_sem] qw6 qd6 qT6
def qw7 (a0 a1:Int):List Arg:=[.c (.int .i64 a0),.c (.int .i64 a1)]
def qd7:List Arg->Int×Int
 | [.c c0,.c c1]=>(aC c0,aC c1)
 | _=>default
def qT7 (r:Int->Int->Option β):=mkT (u2 qw7) qd7 (u2 r) u al
attribute [go_sem] qw7 qd7 qT7
def qw8 (a0 a1 a2 a3:Int):List Arg:=[.agg [.int .i64 a0,.int .i64 a1],.agg [.int .i64 a2,.int .i64 a3]]
def qd8:List Arg->Int×Int×Int×Int
 | [.agg [c0,c1],.agg [c2,c3]]=>(aC c0,aC c1,aC c2,aC c3)
 | _=>default
def qT8 (r:Int->Int->Int->Int->Option β):=mkT (u4 qw8) qd8 (u4 r) u al
attribute [go_sem] qw8 qd8 qT8
def asa (a0 a1:aA):List Arg:=[.c (aj 2 aQ a0),.c (aj 2 aQ a1)]
def atS:List Arg->aA×aA
 | [.c c0,.c c1]=>(aN bZ c0,aN bZ c1)
 | _=>default
def agG (r:aA->aA->Option β):=mkT (u2 asa) atS (u2 r) u al
attribute [go_sem] asa atS agG
def ar' (a0 a1:Int) (a2:aA) (a3:au):List Arg:=[.agg [.int .i64 a0,.int .i64 a1,aj 2 aQ a2,aj 1 aU a3]]
def atQ:List Arg->Int×Int×aA×au
 | [.agg [c0,c1,c2,c3]]=>(aC c0,aC c1,aN bZ c2,aN bW c3)
 | _=>default
def Zp (r:Int->Int->aA->au->Option β):=mkT (u4 ar') atQ (u4 r) u al
attribute [go_sem] ar' atQ Zp
def ar9 (a0 a1:Int) (a2:aA) (a3:au) (a4:aA) (a5:au) (a6:Int):List Arg:=[.agg [.int .i64 a0,.int .i64 a1,aj 2 aQ a2,aj 1 aU a3,aj 2 aQ a4,aj 1 aU a5],.c (.int .i64 a6)]
def atP:List Arg->Int×Int×aA×au×aA×au×Int
 | [.agg [c0,c1,c2,c3,c4,c5],.c c6]=>(aC c0,aC c1,aN bZ c2,aN bW c3,aN bZ c4,aN bW c5,aC c6)
 | _=>default
def agF (r:Int->Int->aA->au->aA->au->Int->Option β):=mkT (u7 ar9) atP (u7 r) u al
attribute [go_sem] ar9 atP agF
def ar8 (a0 a1 a2:Int) (a3:aA) (a4:au) (a5:aA) (a6:au):List Arg:=[.c (.int .i64 a0),.ptr [.int .i64 a1,.int .i64 a2,aj 2 aQ a3,aj 1 aU a4,aj 2 aQ a5,aj 1 aU a6]]
def atO:List Arg->Int×Int×Int×aA×au×aA×au
 | [.c c0,.ptr [c1,c2,c3,c4,c5,c6]]=>(aC c0,aC c1,aC c2,aN bZ c3,aN bW c4,aN bZ c5,aN bW c6)
 | _=>default
def akO (r:Int->Int->Int->aA->au->aA->au->Option β):=mkT (u7 ar8) atO (u7 r) u al
attribute [go_sem] ar8 atO akO
def ar4 (a0 a1:Int) (a2:aA) (a3:au) (a4 a5:aV):List Arg:=[.agg [.int .i64 a0,.int .i64 a1,aj 2 aQ a2,aj 1 aU a3],.agg [aj 1 dh a4,aj 1 dh a5]]
def atK:List Arg->Int×Int×aA×au×aV×aV
 | [.agg [c0,c1,c2,c3],.agg [c4,c5]]=>(aC c0,aC c1,aN bZ c2,aN bW c3,aN kV c4,aN kV c5)
 | _=>default
def acw (r:Int->Int->aA->au->aV->aV->Option β):=mkT (u6 ar4) atK (u6 r) u al
attribute [go_sem] ar4 atK acw
def ar2 (a0 a1:Int) (a2:aA) (a3:au) (a4 a5:aV) (a6:aA) (a7 a8:Int):List Arg:=[.agg [.int .i64 a0,.int .i64 a1,aj 2 aQ a2,aj 1 aU a3,aj 1 dh a4,aj 1 dh a5,aj 2 aQ a6,.int .i64 a7,.int .i64 a8]]
def atJ:List Arg->Int×Int×aA×au×aV×aV×aA×Int×Int
 | [.agg [c0,c1,c2,c3,c4,c5,c6,c7,c8]]=>(aC c0,aC c1,aN bZ c2,aN bW c3,aN kV c4,aN kV c5,aN bZ c6,aC c7,aC c8)
 | _=>default
def PO (r:Int->Int->aA->au->aV->aV->aA->Int->Int->Option β):=mkT (u9 ar2) atJ (u9 r) u al
attribute [go_sem] ar2 atJ PO
def ar1 (a0:dB):List Arg:=[.c (aj 6 dO a0)]
def atI:List Arg->dB
 | [.c c0]=>aN iy c0
 | _=>default
def agE (r:dB->Option β):=mkT (u1 ar1) atI (u1 r) u al
attribute [go_sem] ar1 atI agE
def arY (a0 a1:Int):List Arg:=[.agg [.int .i64 a0,.int .i64 a1]]
def atF:List Arg->Int×Int
 | [.agg [c0,c1]]=>(aC c0,aC c1)
 | _=>default
def PN (r:Int->Int->Option β):=mkT (u2 arY) atF (u2 r) u al
attribute [go_sem] arY atF PN
def arW (a0 a1:Int) (a2:aA) (a3:au) (a4:aV):List Arg:=[.agg [.int .i64 a0,.int .i64 a1,aj 2 aQ a2,aj 1 aU a3],.c (aj 1 dh a4)]
def atD:List Arg->Int×Int×aA×au×aV
 | [.agg [c0,c1,c2,c3],.c c4]=>(aC c0,aC c1,aN bZ c2,aN bW c3,aN kV c4)
 | _=>default
def akN (r:Int->Int->aA->au->aV->Option β):=mkT (u5 arW) atD (u5 r) u al
attribute [go_sem] arW atD akN
def arO (a0:aT) (a1:aG) (a2:aJ) (a3:aA) (a4 a5 a6 a7:Int):List Arg:=[.agg [aj 4 bV a0,aj 5 bI a1,aj 3 bU a2,aj 2 aQ a3,.int .i64 a4,.int .i64 a5,.int .i64 a6,.int .i64 a7]]
def atv:List Arg->aT×aG×aJ×aA×Int×Int×Int×Int
 | [.agg [c0,c1,c2,c3,c4,c5,c6,c7]]=>(aN jo c0,aN gq c1,aN jc c2,aN bZ c3,aC c4,aC c5,aC c6,aC c7)
 | _=>default
def PK (r:aT->aG->aJ->aA->Int->Int->Int->Int->Option β):=mkT (u8 arO) atv (u8 r) u al
attribute [go_sem] arO atv PK
def arL (a0 a1:Int) (a2:aA) (a3:au) (a4 a5:aV) (a6:aA) (a7 a8:Int) (a9:aT) (a10:aG) (a11:aJ) (a12:aA) (jE jR kJ a16:Int) (a17:aJ) (ng:Int):List Arg:=[.agg [.int .i64 a0,.int .i64 a1,aj 2 aQ a2,aj 1 aU a3,aj 1 dh a4,aj 1 dh a5,aj 2 aQ a6,.int .i64 a7,.int .i64 a8,aj 4 bV a9,aj 5 bI a10,aj 3 bU a11,aj 2 aQ a12,.int .i64 jE,.int .i64 jR,.int .i64 kJ,.int .i64 a16,aj 3 bU a17,.int .i64 ng]]
def atr:List Arg->Int×Int×aA×au×aV×aV×aA×Int×Int×aT×aG×aJ×aA×Int×Int×Int×Int×aJ×Int
 | [.agg [c0,c1,c2,c3,c4,c5,c6,c7,c8,c9,c10,c11,c12,c13,c14,c15,c16,c17,c18]]=>(aC c0,aC c1,aN bZ c2,aN bW c3,aN kV c4,aN kV c5,aN bZ c6,aC c7,aC c8,aN jo c9,aN gq c10,aN jc c11,aN bZ c12,aC c13,aC c14,aC c15,aC c16,aN jc c17,aC c18)
 | _=>default
def Ud (r:Int->Int->aA->au->aV->aV->aA->Int->Int->aT->aG->aJ->aA->Int->Int->Int->Int->aJ->Int->Option β):=mkT (u19 arL) atr (u19 r) u al
attribute [go_sem] arL atr Ud
def arK (a0 a1:Int) (a2:aA) (a3:au) (a4 a5:aV) (a6:aA) (a7 a8:Int) (a9:aA):List Arg:=[.agg [.int .i64 a0,.int .i64 a1,aj 2 aQ a2,aj 1 aU a3,aj 1 dh a4,aj 1 dh a5,aj 2 aQ a6,.int .i64 a7,.int .i64 a8],.c (aj 2 aQ a9)]
def atq:List Arg->Int×Int×aA×au×aV×aV×aA×Int×Int×aA
 | [.agg [c0,c1,c2,c3,c4,c5,c6,c7,c8],.c c9]=>(aC c0,aC c1,aN bZ c2,aN bW c3,aN kV c4,aN kV c5,aN bZ c6,aC c7,aC c8,aN bZ c9)
 | _=>default
def acu (r:Int->Int->aA->au->aV->aV->aA->Int->Int->aA->Option β):=mkT (u10 arK) atq (u10 r) u al
attribute [go_sem] arK atq acu
def arE (a0 a1:Int) (a2:aA) (a3:au) (a4 a5:aV) (a6:fK):List Arg:=[.agg [.int .i64 a0,.int .i64 a1,aj 2 aQ a2,aj 1 aU a3],.agg [aj 1 dh a4,aj 1 dh a5],.c (aj 3 jq a6)]
def atj:List Arg->Int×Int×aA×au×aV×aV×fK
 | [.agg [c0,c1,c2,c3],.agg [c4,c5],.c c6]=>(aC c0,aC c1,aN bZ c2,aN bW c3,aN kV c4,aN kV c5,aN pW c6)
 | _=>default
def auv (r:Int->Int->aA->au->aV->aV->fK->Option β):=mkT (u7 arE) atj (u7 r) u al
attribute [go_sem] arE atj auv
def arD (a0 a1:Int) (a2:aA) (a3:au) (a4:Int):List Arg:=[.agg [.int .i64 a0,.int .i64 a1,aj 2 aQ a2,aj 1 aU a3],.c (.int .i64 a4)]
def ati:List Arg->Int×Int×aA×au×Int
 | [.agg [c0,c1,c2,c3],.c c4]=>(aC c0,aC c1,aN bZ c2,aN bW c3,aC c4)
 | _=>default
def akJ (r:Int->Int->aA->au->Int->Option β):=mkT (u5 arD) ati (u5 r) u al
attribute [go_sem] arD ati akJ
def arC (a0 a1:Int) (a2:aA) (a3:au) (a4 a5:aV) (a6:aA) (a7 a8 a9 a10:Int):List Arg:=[.agg [.int .i64 a0,.int .i64 a1,aj 2 aQ a2,aj 1 aU a3,aj 1 dh a4,aj 1 dh a5,aj 2 aQ a6,.int .i64 a7,.int .i64 a8],.c (.int .i64 a9),.c (.int .i64 a10)]
def ath:List Arg->Int×Int×aA×au×aV×aV×aA×Int×Int×Int×Int
 | [.agg [c0,c1,c2,c3,c4,c5,c6,c7,c8],.c c9,.c c10]=>(aC c0,aC c1,aN bZ c2,aN bW c3,aN kV c4,aN kV c5,aN bZ c6,aC c7,aC c8,aC c9,aC c10)
 | _=>default
def akI (r:Int->Int->aA->au->aV->aV->aA->Int->Int->Int->Int->Option β):=mkT (u11 arC) ath (u11 r) u al
attribute [go_sem] arC ath akI
def arB (a0 a1 a2 a3 a4 a5 a6:Int):List Arg:=[.agg [.int .i64 a0,.int .i64 a1,.int .i64 a2,.int .i64 a3,.int .i64 a4,.int .i64 a5,.int .i64 a6]]
def atg:List Arg->Int×Int×Int×Int×Int×Int×Int
 | [.agg [c0,c1,c2,c3,c4,c5,c6]]=>(aC c0,aC c1,aC c2,aC c3,aC c4,aC c5,aC c6)
 | _=>default
def agD (r:Int->Int->Int->Int->Int->Int->Int->Option β):=mkT (u7 arB) atg (u7 r) u al
attribute [go_sem] arB atg agD
def arx (a0:aT) (a1:aG) (a2:aJ) (a3:aA) (a4 a5 a6 a7 a8:Int):List Arg:=[.agg [aj 4 bV a0,aj 5 bI a1,aj 3 bU a2,aj 2 aQ a3,.int .i64 a4,.int .i64 a5,.int .i64 a6,.int .i64 a7],.c (.int .i64 a8)]
def atd:List Arg->aT×aG×aJ×aA×Int×Int×Int×Int×Int
 | [.agg [c0,c1,c2,c3,c4,c5,c6,c7],.c c8]=>(aN jo c0,aN gq c1,aN jc c2,aN bZ c3,aC c4,aC c5,aC c6,aC c7,aC c8)
 | _=>default
def Zo (r:aT->aG->aJ->aA->Int->Int->Int->Int->Int->Option β):=mkT (u9 arx) atd (u9 r) u al
attribute [go_sem] arx atd Zo
def arj (a0:aT) (a1:aG) (a2:aJ) (a3:aA) (a4 a5 a6 a7 a8 a9 a10 a11 a12 jE jR kJ a16 a17 ng oO a20 a21 a22:Int):List Arg:=[.agg [aj 4 bV a0,aj 5 bI a1,aj 3 bU a2,aj 2 aQ a3,.int .i64 a4,.int .i64 a5,.int .i64 a6,.int .i64 a7],.agg [.int .i64 a8,.int .i64 a9,.int .i64 a10,.int .i64 a11,.int .i64 a12,.int .i64 jE,.int .i64 jR,.int .i64 kJ,.int .i64 a16,.int .i64 a17,.int .i64 ng,.int .i64 oO,.int .i64 a20,.int .i64 a21],.c (.int .i64 a22)]
def as2:List Arg->aT×aG×aJ×aA×Int×Int×Int×Int×Int×Int×Int×Int×Int×Int×Int×Int×Int×Int×Int×Int×Int×Int×Int
 | [.agg [c0,c1,c2,c3,c4,c5,c6,c7],.agg [c8,c9,c10,c11,c12,c13,c14,c15,c16,c17,c18,c19,c20,c21],.c Vy]=>(aN jo c0,aN gq c1,aN jc c2,aN bZ c3,aC c4,aC c5,aC c6,aC c7,aC c8,aC c9,aC c10,aC c11,aC c12,aC c13,aC c14,aC c15,aC c16,aC c17,aC c18,aC c19,aC c20,aC c21,aC Vy)
 | _=>default
def auj (r:aT->aG->aJ->aA->Int->Int->Int->Int->Int->Int->Int->Int->Int->Int->Int->Int->Int->Int->Int->Int->Int->Int->Int->Option β):=mkT (u23 arj) as2 (u23 r) u al
attribute [go_sem] arj as2 auj
def arh (a0:aT) (a1:aG) (a2:aJ) (a3:aA) (a4 a5 a6 a7 a8 a9 a10 a11 a12 jE jR kJ a16 a17 ng oO a20 a21 a22 a23:Int):List Arg:=[.agg [aj 4 bV a0,aj 5 bI a1,aj 3 bU a2,aj 2 aQ a3,.int .i64 a4,.int .i64 a5,.int .i64 a6,.int .i64 a7],.agg [.int .i64 a8,.int .i64 a9,.int .i64 a10,.int .i64 a11,.int .i64 a12,.int .i64 jE,.int .i64 jR,.int .i64 kJ,.int .i64 a16,.int .i64 a17,.int .i64 ng,.int .i64 oO,.int .i64 a20,.int .i64 a21],.agg [.int .i64 a22,.int .i64 a23]]
def asZ:List Arg->aT×aG×aJ×aA×Int×Int×Int×Int×Int×Int×Int×Int×Int×Int×Int×Int×Int×Int×Int×Int×Int×Int×Int×Int
 | [.agg [c0,c1,c2,c3,c4,c5,c6,c7],.agg [c8,c9,c10,c11,c12,c13,c14,c15,c16,c17,c18,c19,c20,c21],.agg [Vy,c23]]=>(aN jo c0,aN gq c1,aN jc c2,aN bZ c3,aC c4,aC c5,aC c6,aC c7,aC c8,aC c9,aC c10,aC c11,aC c12,aC c13,aC c14,aC c15,aC c16,aC c17,aC c18,aC c19,aC c20,aC c21,aC Vy,aC c23)
 | _=>default
def auh (r:aT->aG->aJ->aA->Int->Int->Int->Int->Int->Int->Int->Int->Int->Int->Int->Int->Int->Int->Int->Int->Int->Int->Int->Int->Option β):=mkT (u24 arh) asZ (u24 r) u al
attribute [go_sem] arh asZ auh
def arf (a0:aT) (a1:aG) (a2:aJ) (a3:aA) (a4 a5 a6 a7 a8 a9 a10 a11 a12 jE jR kJ a16 a17 ng oO a20 a21:Int) (a22:aA):List Arg:=[.agg [aj 4 bV a0,aj 5 bI a1,aj 3 bU a2,aj 2 aQ a3,.int .i64 a4,.int .i64 a5,.int .i64 a6,.int .i64 a7],.agg [.int .i64 a8,.int .i64 a9,.int .i64 a10,.int .i64 a11,.int .i64 a12,.int .i64 jE,.int .i64 jR,.int .i64 kJ,.int .i64 a16,.int .i64 a17,.int .i64 ng,.int .i64 oO,.int .i64 a20,.int .i64 a21],.c (aj 2 aQ a22)]
def asY:List Arg->aT×aG×aJ×aA×Int×Int×Int×Int×Int×Int×Int×Int×Int×Int×Int×Int×Int×Int×Int×Int×Int×Int×aA
 | [.agg [c0,c1,c2,c3,c4,c5,c6,c7],.agg [c8,c9,c10,c11,c12,c13,c14,c15,c16,c17,c18,c19,c20,c21],.c Vy]=>(aN jo c0,aN gq c1,aN jc c2,aN bZ c3,aC c4,aC c5,aC c6,aC c7,aC c8,aC c9,aC c10,aC c11,aC c12,aC c13,aC c14,aC c15,aC c16,aC c17,aC c18,aC c19,aC c20,aC c21,aN bZ Vy)
 | _=>default
def aug (r:aT->aG->aJ->aA->Int->Int->Int->Int->Int->Int->Int->Int->Int->Int->Int->Int->Int->Int->Int->Int->Int->Int->aA->Option β):=mkT (u23 arf) asY (u23 r) u al
attribute [go_sem] arf asY aug
def arb (a0:aT) (a1:aG) (a2:aJ) (a3:aA) (a4 a5 a6 a7 a8 a9 a10 a11 a12 jE jR kJ a16 a17 ng oO a20 a21:Int):List Arg:=[.agg [aj 4 bV a0,aj 5 bI a1,aj 3 bU a2,aj 2 aQ a3,.int .i64 a4,.int .i64 a5,.int .i64 a6,.int .i64 a7],.agg [.int .i64 a8,.int .i64 a9,.int .i64 a10,.int .i64 a11,.int .i64 a12,.int .i64 jE,.int .i64 jR,.int .i64 kJ,.int .i64 a16,.int .i64 a17,.int .i64 ng,.int .i64 oO,.int .i64 a20,.int .i64 a21]]
def asW:List Arg->aT×aG×aJ×aA×Int×Int×Int×Int×Int×Int×Int×Int×Int×Int×Int×Int×Int×Int×Int×Int×Int×Int
 | [.agg [c0,c1,c2,c3,c4,c5,c6,c7],.agg [c8,c9,c10,c11,c12,c13,c14,c15,c16,c17,c18,c19,c20,c21]]=>(aN jo c0,aN gq c1,aN jc c2,aN bZ c3,aC c4,aC c5,aC c6,aC c7,aC c8,aC c9,aC c10,aC c11,aC c12,aC c13,aC c14,aC c15,aC c16,aC c17,aC c18,aC c19,aC c20,aC c21)
 | _=>default
def aue (r:aT->aG->aJ->aA->Int->Int->Int->Int->Int->Int->Int->Int->Int->Int->Int->Int->Int->Int->Int->Int->Int->Int->Option β):=mkT (u22 arb) asW (u22 r) u al
attribute [go_sem] arb asW aue
def aq9 (a0 a1:Int) (a2:aA) (a3:au) (a4 a5:aV) (a6:aA) (a7 a8 a9 a10:Int) (a11:aA) (a12:au) (jE jR:aV) (kJ:aA) (a16 a17:Int) (ng:aT) (oO:aG) (a20:aJ) (a21:aA) (a22 a23 a24 a25:Int) (a26:aJ) (a27:Int) (a28:aA):List Arg:=[.agg [.int .i64 a0,.int .i64 a1,aj 2 aQ a2,aj 1 aU a3,aj 1 dh a4,aj 1 dh a5,aj 2 aQ a6,.int .i64 a7,.int .i64 a8,.int .i64 a9,.int .i64 a10,aj 2 aQ a11,aj 1 aU a12,aj 1 dh jE,aj 1 dh jR,aj 2 aQ kJ,.int .i64 a16,.int .i64 a17,aj 4 bV ng,aj 5 bI oO,aj 3 bU a20,aj 2 aQ a21,.int .i64 a22,.int .i64 a23,.int .i64 a24,.int .i64 a25,aj 3 bU a26,.int .i64 a27],.c (aj 2 aQ a28)]
def asU:List Arg->Int×Int×aA×au×aV×aV×aA×Int×Int×Int×Int×aA×au×aV×aV×aA×Int×Int×aT×aG×aJ×aA×Int×Int×Int×Int×aJ×Int×aA
 | [.agg [c0,c1,c2,c3,c4,c5,c6,c7,c8,c9,c10,c11,c12,c13,c14,c15,c16,c17,c18,c19,c20,c21,Vy,c23,c24,c25,c26,c27],.c c28]=>(aC c0,aC c1,aN bZ c2,aN bW c3,aN kV c4,aN kV c5,aN bZ c6,aC c7,aC c8,aC c9,aC c10,aN bZ c11,aN bW c12,aN kV c13,aN kV c14,aN bZ c15,aC c16,aC c17,aN jo c18,aN gq c19,aN jc c20,aN bZ c21,aC Vy,aC c23,aC c24,aC c25,aN jc c26,aC c27,aN bZ c28)
 | _=>default
def akG (r:Int->Int->aA->au->aV->aV->aA->Int->Int->Int->Int->aA->au->aV->aV->aA->Int->Int->aT->aG->aJ->aA->Int->Int->Int->Int->aJ->Int->aA->Option β):=mkT (u29 aq9) asU (u29 r) u al
attribute [go_sem] aq9 asU akG
def aq8 (a0 a1:Int) (a2:aA) (a3:au) (a4 a5:aV) (a6:aA) (a7 a8:Int) (a9:aT) (a10:aG) (a11:aJ) (a12:aA) (jE jR kJ a16:Int) (a17:aJ) (ng:Int) (oO:aA):List Arg:=[.agg [.int .i64 a0,.int .i64 a1,aj 2 aQ a2,aj 1 aU a3,aj 1 dh a4,aj 1 dh a5,aj 2 aQ a6,.int .i64 a7,.int .i64 a8,aj 4 bV a9,aj 5 bI a10,aj 3 bU a11,aj 2 aQ a12,.int .i64 jE,.int .i64 jR,.int .i64 kJ,.int .i64 a16,aj 3 bU a17,.int .i64 ng],.c (aj 2 aQ oO)]
def asT:List Arg->Int×Int×aA×au×aV×aV×aA×Int×Int×aT×aG×aJ×aA×Int×Int×Int×Int×aJ×Int×aA
 | [.agg [c0,c1,c2,c3,c4,c5,c6,c7,c8,c9,c10,c11,c12,c13,c14,c15,c16,c17,c18],.c c19]=>(aC c0,aC c1,aN bZ c2,aN bW c3,aN kV c4,aN kV c5,aN bZ c6,aC c7,aC c8,aN jo c9,aN gq c10,aN jc c11,aN bZ c12,aC c13,aC c14,aC c15,aC c16,aN jc c17,aC c18,aN bZ c19)
 | _=>default
def akF (r:Int->Int->aA->au->aV->aV->aA->Int->Int->aT->aG->aJ->aA->Int->Int->Int->Int->aJ->Int->aA->Option β):=mkT (u20 aq8) asT (u20 r) u al
attribute [go_sem] aq8 asT akF
def qu0 (v:Int×Int×aA×au×aV×aV×aA×Int×Int):List RV:=[.agg [.d (.int .i64 v.1),.d (.int .i64 v.2.1),.own (aj 2 aQ v.2.2.1),.own (aj 1 aU v.2.2.2.1),.own (aj 1 dh v.2.2.2.2.1),.own (aj 1 dh v.2.2.2.2.2.1),.own (aj 2 aQ v.2.2.2.2.2.2.1),.d (.int .i64 v.2.2.2.2.2.2.2.1),.d (.int .i64 v.2.2.2.2.2.2.2.2)]]
attribute [go_sem] qu0
def qu1 (v:dB):List RV:=[.c (.own (aj 6 dO v))]
attribute [go_sem] qu1
def qV (v:Bool):List RV:=[.c (.d (.bool v))]
attribute [go_sem] qV
def mY (v:Int):List RV:=[.c (.d (.int .i64 v))]
attribute [go_sem] mY
def JM (v:Int×Int):List RV:=[.c (.d (.int .i64 v.1)),.c (.d (.int .i64 v.2))]
attribute [go_sem] JM
def qu5 (v:aA):List RV:=[.c (.own (aj 2 aQ v))]
attribute [go_sem] qu5
def qu6 (v:Int×Bool):List RV:=[.c (.d (.int .i64 v.1)),.c (.d (.bool v.2))]
attribute [go_sem] qu6
def qu7 (v:Int×Int):List RV:=[.agg [.d (.int .i64 v.1),.d (.int .i64 v.2)]]
attribute [go_sem] qu7
def qu8 (v:Int×Int×aA×au×aA×au×Int):List RV:=[.agg [.d (.int .i64 v.1),.d (.int .i64 v.2.1),.d (aj 2 aQ v.2.2.1),.d (aj 1 aU v.2.2.2.1),.own (aj 2 aQ v.2.2.2.2.1),.own (aj 1 aU v.2.2.2.2.2.1)],.c (.d (.int .i64 v.2.2.2.2.2.2))]
attribute [go_sem] qu8
def qu9 (v:Int×Int×aA×au×aV×aV×aA×Int×Int×Int):List RV:=[.agg [.d (.int .i64 v.1),.d (.int .i64 v.2.1),.d (aj 2 aQ v.2.2.1),.d (aj 1 aU v.2.2.2.1),.d (aj 1 dh v.2.2.2.2.1),.d (aj 1 dh v.2.2.2.2.2.1),.d (aj 2 aQ v.2.2.2.2.2.2.1),.d (.int .i64 v.2.2.2.2.2.2.2.1),.d (.int .i64 v.2.2.2.2.2.2.2.2.1)],.c (.d (.int .i64 v.2.2.2.2.2.2.2.2.2))]
attribute [go_sem] qu9
def agB (v:aA×Int):List RV:=[.c (.own (aj 2 aQ v.1)),.c (.d (.int .i64 v.2))]
attribute [go_sem] agB
def akC (v:aT×aG×aJ×aA×Int×Int×Int×Int):List RV:=[.agg [.own (aj 4 bV v.1),.own (aj 5 bI v.2.1),.own (aj 3 bU v.2.2.1),.own (aj 2 aQ v.2.2.2.1),.d (.int .i64 v.2.2.2.2.1),.d (.int .i64 v.2.2.2.2.2.1),.d (.int .i64 v.2.2.2.2.2.2.1),.d (.int .i64 v.2.2.2.2.2.2.2)]]
attribute [go_sem] akC
def akB (v:Int×Int×aA×au×aV×aV×aA×Int×Int×aT×aG×aJ×aA×Int×Int×Int×Int×aJ×Int):List RV:=[.agg [.d (.int .i64 v.1),.d (.int .i64 v.2.1),.own (aj 2 aQ v.2.2.1),.own (aj 1 aU v.2.2.2.1),.own (aj 1 dh v.2.2.2.2.1),.own (aj 1 dh v.2.2.2.2.2.1),.own (aj 2 aQ v.2.2.2.2.2.2.1),.d (.int .i64 v.2.2.2.2.2.2.2.1),.d (.int .i64 v.2.2.2.2.2.2.2.2.1),.own (aj 4 bV v.2.2.2.2.2.2.2.2.2.1),.own (aj 5 bI v.2.2.2.2.2.2.2.2.2.2.1),.own (aj 3 bU v.2.2.2.2.2.2.2.2.2.2.2.1),.own (aj 2 aQ v.2.2.2.2.2.2.2.2.2.2.2.2.1),.d (.int .i64 v.2.2.2.2.2.2.2.2.2.2.2.2.2.1),.d (.int .i64 v.2.2.2.2.2.2.2.2.2.2.2.2.2.2.1),.d (.int .i64 v.2.2.2.2.2.2.2.2.2.2.2.2.2.2.2.1),.d (.int .i64 v.2.2.2.2.2.2.2.2.2.2.2.2.2.2.2.2.1),.own (aj 3 bU v.2.2.2.2.2.2.2.2.2.2.2.2.2.2.2.2.2.1),.d (.int .i64 v.2.2.2.2.2.2.2.2.2.2.2.2.2.2.2.2.2.2)]]
attribute [go_sem] akB
def asz (v:fK):List RV:=[.c (.own (aj 3 jq v))]
attribute [go_sem] asz
def asv (v:au×Int):List RV:=[.c (.own (aj 1 aU v.1)),.c (.d (.int .i64 v.2))]
attribute [go_sem] asv
def MP (v:Int×Int×Int×Int×Int×Int×Int×Int×Int×Int×Int×Int×Int×Int):List RV:=[.agg [.d (.int .i64 v.1),.d (.int .i64 v.2.1),.d (.int .i64 v.2.2.1),.d (.int .i64 v.2.2.2.1),.d (.int .i64 v.2.2.2.2.1),.d (.int .i64 v.2.2.2.2.2.1),.d (.int .i64 v.2.2.2.2.2.2.1),.d (.int .i64 v.2.2.2.2.2.2.2.1),.d (.int .i64 v.2.2.2.2.2.2.2.2.1),.d (.int .i64 v.2.2.2.2.2.2.2.2.2.1),.d (.int .i64 v.2.2.2.2.2.2.2.2.2.2.1),.d (.int .i64 v.2.2.2.2.2.2.2.2.2.2.2.1),.d (.int .i64 v.2.2.2.2.2.2.2.2.2.2.2.2.1),.d (.int .i64 v.2.2.2.2.2.2.2.2.2.2.2.2.2)]]
attribute [go_sem] MP
def asj (v:Int×Int×Int×Int):List RV:=[.agg [.d (.int .i64 v.1),.d (.int .i64 v.2.1),.d (.int .i64 v.2.2.1),.d (.int .i64 v.2.2.2)]]
attribute [go_sem] asj
def agA (v:ByteArray):List RV:=[.c (.d (.str v))]
attribute [go_sem] agA
def asf (v:aV):List RV:=[.c (.own (aj 1 dh v))]
attribute [go_sem] asf
end
end Go.Proofs.YtnepigpnlnmlmaaGreatDoor

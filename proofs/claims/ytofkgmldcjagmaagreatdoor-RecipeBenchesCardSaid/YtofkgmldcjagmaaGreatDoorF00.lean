/- Lists in cells, written by wip/dec. -/
import Derived.Test.YtofkgmldcjagmaaGreatDoorTy
import Derived.Test.YtofkgmldcjagmaaGreatDoorAbsTac
import Derived.Test.YtofkgmldcjagmaaGreatDoorLib
import Derived.WalkKit
set_option linter.unusedVariables false
set_option linter.unusedSimpArgs false
set_option linter.constructorNameAsVariable false
set_option maxHeartbeats 4000000
set_option maxRecDepth 20000
namespace Go.Proofs.YtofkgmldcjagmaaGreatDoor
open Go.dJ
attribute [go_sem] Du mQ lu abd DR fP nT abb aeN Ji aeO lI
theorem Zo {α:Type} (r:List α):List.append [] r=r:=rfl
theorem WI {α:Type} (a:α) (l r:List α):List.append (a::l) r=a::List.append l r:=rfl
attribute [go_sem] Zo WI
section
variable {α β:Type} [Inhabited β] (e:α→List Arg) (d:List Arg→α) (f:α→Option β) (u:β→List RV) (al:Bool) (a:List Arg)
theorem mkP:(mkT e d f u al).sp.pre a=(eqvArgs a (e (d a))∧(f (d a)).isSome=true):=(rfl)
theorem mkR:(mkT e d f u al).sp.res a=u ((f (d a)).getD default):=(rfl)
theorem mkA:(mkT e d f u al).sp.alias=al:=(rfl)
end
attribute [go_sem] mkP mkR mkA
inductive Hl where
 | nil
 | cons (a:Int) (b:Int) (c:Int) (d:Int) (e:Int) (f r:Hl)
instance:Inhabited Hl:=⟨.nil⟩
abbrev bC:=List (Int×Int×Int×Int×Int×Hl)
def hU:Hl→bC
 | .nil=>[]
 | .cons a b c d e f r=>(a,b,c,d,e,f)::hU r
def hM:bC→Hl
 | []=> .nil
 | (a,b,c,d,e,f)::r=> .cons a b c d e f (hM r)
theorem Lu:∀ l,hU (hM l)=l
 | []=>rfl
 | (a,b,c,d,e,f)::r=>by simp only [hM,hU,Lu r]
theorem U3:∀ x,hM (hU x)=x
 | .nil=>rfl
 | .cons a b c d e f r=>by simp only [hM,hU,U3 r]
def hN:Hl→Nat
 | .nil=>0
 | .cons _ _ _ _ _ _ r=>hN r+1
def hG:Hl→Nat→List D
 | .nil,_=>[]
 | .cons a b c d e f _,0=>[.int .i64 a,.int .i64 b,.int .i64 c,.int .i64 d,.int .i64 e,.sl 6 (hN f) (hG f)]
 | .cons _ _ _ _ _ _ r,i+1=>hG r i
def hE (x:Hl):D:= .sl 6 (hN x) (hG x)
def hB {α:Type} (f:Nat→α):Nat→Nat→List α
 | _,0=>[]
 | i,n+1=>f i::hB f (i+1) n
mutual
def hD:D→Hl
 | .sl _ n g=>hM (hB (fun i=>fM (g i)) 0 n)
 | _=> .nil
def fM:List D→Int×Int×Int×Int×Int×Hl
 | [.int _ a,.int _ b,.int _ c,.int _ d,.int _ e,f]=>(a,b,c,d,e,hD f)
 | _=>default
end
def bD (x:Int×Int×Int×Int×Int×Hl):List D:=[.int .i64 x.1,.int .i64 x.2.1,.int .i64 x.2.2.1,.int .i64 x.2.2.2.1,.int .i64 x.2.2.2.2.1,hE x.2.2.2.2.2]
theorem Xp (x:Int×Int×Int×Int×Int×Hl):bD x=[.int .i64 x.1,.int .i64 x.2.1,.int .i64 x.2.2.1,.int .i64 x.2.2.2.1,.int .i64 x.2.2.2.2.1,hE x.2.2.2.2.2]:=by rw [bD]
theorem aaf:∀ x,(hU x).length=hN x
 | .nil=>rfl
 | .cons _ _ _ _ _ _ r=>by simp only [hU,hN,List.length_cons,aaf r]
theorem aiT:∀ x i,i<hN x→hG x i=bD ((hU x).getD i default)
 | .nil,_,h=>absurd h (by simp [hN])
 | .cons _ _ _ _ _ _ r,0,_=>rfl
 | .cons _ _ _ _ _ _ r,i+1,h=>by
  simp only [hG,hU,List.getD_cons_succ]
  exact aiT r i (by simp only [hN] at h; omega)
theorem aaj {α:Type} (f:Nat→α):∀ n i,hB f i n=(List.range n).map fun j=>f (i+j)
 | 0,_=>rfl
 | n+1,i=>by
  rw [hB,aaj f n (i+1),List.range_succ_eq_map,List.map_cons,List.map_map]
  congr 1
  refine List.map_congr_left fun j _=> ?_
  simp only [Function.comp]
  congr 1; omega
theorem aiU (s n:Nat) (g:Nat→List D):hD (.sl s n g)=hM (aG fM (.sl s n g)):=by
 rw [hD,aaj]
 simp only [aG,D.len,D.nth,Nat.zero_add]
theorem IG:∀ x,aG fM (hE x)=hU x
 | .nil=>rfl
 | .cons a b c d e f r=>by
  show (List.range (hN r+1)).map (fun i=>fM (hG (.cons a b c d e f r) i))=_
  rw [List.range_succ_eq_map,List.map_cons,List.map_map,hU]
  have h1:fM (hG (.cons a b c d e f r) 0)=(a,b,c,d,e,f):=by
   show fM [.int .i64 a,.int .i64 b,.int .i64 c,.int .i64 d,.int .i64 e,hE f]=_
   rw [fM,hE,aiU]
   have:=IG f
   rw [hE] at this
   rw [this,U3]
  rw [h1]
  congr 1
  exact IG r
theorem aiW (x:Hl):hD (hE x)=x:=by
 show hD (.sl 6 (hN x) (hG x))=x
 rw [aiU]; show hM (aG fM (hE x))=x
 rw [IG,U3]
theorem WU (x:Int×Int×Int×Int×Int×Hl):fM (bD x)=x:=by
 show fM [_,_,_,_,_,_]=x
 rw [fM,aiW]
theorem vK (l:bC):aG fM (ah 6 bD l)=l:=bZ _ _ _ _ WU
theorem aiV (l:bC):hD (ah 6 bD l)=hM l:=by
 show hD (.sl _ _ _)=_
 rw [aiU]; show hM (aG fM (ah 6 bD l))=_
 rw [vK]
theorem aah (x:Hl):(hE x).len=(hU x).length:=(aaf x).symm
theorem aei (x:Hl):(hE x).cu=true:=rfl
theorem WL (x:Hl):(hE x).stride=6:=rfl
theorem aai (x:Hl):Go.dJ.Can 6 bD (hU x) (hE x):=⟨rfl,rfl,(aaf x).symm,fun i hi=>by
 show l9 (hG x i) _
 rw [aiT x i (by rw [← aaf]; exact hi)]; exact .refl _⟩
theorem aes (x:Hl):mG (hE x) (ah 6 bD (hU x))=True:=mQ (aai x)
theorem aew (x:Hl):mG (hE x) (hE x)=True:=eq_true (.refl _)
theorem aev {l:bC} {d:D} (h:Go.dJ.Can 6 bD l d):mG d (hE (hM l))=True:=eq_true (mg.eqv ⟨h.1,rfl,h.2.1.trans rfl,h.2.2.1.trans (by rw [aah,Lu]),fun i hi=>by
 have hl:=h.2.2.1
 have h1:=h.2.2.2 i (by omega)
 have h2:(hE (hM l)).nth i=bD (l.getD i default):=by
  show hG (hM l) i=_
  rw [aiT _ i (by rw [← aaf,Lu]; omega),Lu]
 rw [h2]; exact h1⟩)
theorem aeu (s:Nat) (g:Nat→List D):mG (.sl s 0 g) (hE .nil)=True:=eq_true (.nil _ _ _ _)
theorem aAn (s:Nat) (g:Nat→List D):hD (.sl s 0 g)= .nil:=(rfl)
theorem ajf (x:Hl):Go.dJ.Can 6 bD (hU x) (hE x)=True:=eq_true (aai x)
theorem Qm {α:Type} [Inhabited α] {s s':Nat} {f:α→List D} {l:List α} {a:α} {x:D} {c0 c:List D} (hx:Go.dJ.Can s f l x) (hn:c0.length=c.length) (hc:jc c (f a)):Go.dJ.Can s f (l++[a]) ((D.cat x (D.ofList s' [c0])).setAt l.length 0 c)=True:=by
 obtain ⟨h1,h2,h3,h4⟩:=hx
 refine eq_true ⟨rfl,h2,by show x.len+1=_; rw [h3]; simp,fun i hi=> ?_⟩
 have hi':i<l.length+1:=by simpa using hi
 by_cases e:i=l.length
 ·subst e
  have g1:((D.cat x (D.ofList s' [c0])).setAt l.length 0 c).nth l.length=c:=by
   show (if l.length=l.length then splice ((D.cat x (D.ofList s' [c0])).nth l.length) 0 c else _)=c
   rw [if_pos rfl]
   have:(D.cat x (D.ofList s' [c0])).nth l.length=c0:=by
    show (if l.length<x.len then _ else _)=_
    rw [if_neg (by omega),h3,Nat.sub_self]; rfl
   rw [this]; simp [splice,hn]
  rw [g1]
  have g2:(l++[a]).getD l.length default=a:=by simp [List.getD_eq_getElem?_getD]
  rw [g2]; exact iO hc
 ·have hlt:i<l.length:=by omega
  have g1:((D.cat x (D.ofList s' [c0])).setAt l.length 0 c).nth i=x.nth i:=by
   show (if i=l.length then _ else (D.cat x (D.ofList s' [c0])).nth i)=_
   rw [if_neg e]
   show (if i<x.len then x.nth i else _)=_
   rw [if_pos (by omega)]
  rw [g1]
  have g2:(l++[a]).getD i default=l.getD i default:=by simp [List.getD_eq_getElem?_getD,List.getElem?_append_left hlt]
  rw [g2]; exact h4 i hlt
attribute [go_sem] Xp fM vK Lu U3 IG aiW aiV aah aei WL aes aew aev aeu aAn ajf Qm
abbrev aZ:=List (Int)
def cO (x:Int):List D:=[.int .i64 x]
theorem aAO (x:Int):cO x=[.int .i64 x]:=by rw [cO]
def jM:List D→Int
 | [.int _ a]=>a
 | _=>default
theorem aAr (x:Int):jM (cO x)=x:=by rfl
theorem Vd (l:List (Int)):aG jM (ah 1 cO l)=l:=bZ _ _ _ _ aAr
theorem aAz (l:List (Int)):(ah 1 cO l).flat=True:=lV (fun _=>rfl)
attribute [go_sem] aAO jM Vd aAz
abbrev au:=List (Int×Int)
def aO (x:Int×Int):List D:=[.int .i64 x.1,.int .i64 x.2]
theorem afZ (x:Int×Int):aO x=[.int .i64 x.1,.int .i64 x.2]:=by rw [aO]
def bY:List D→Int×Int
 | [.int _ a,.int _ b]=>(a,b)
 | _=>default
theorem afX (x:Int×Int):bY (aO x)=x:=by rfl
theorem Jb (l:List (Int×Int)):aG bY (ah 2 aO l)=l:=bZ _ _ _ _ afX
theorem as7 (l:List (Int×Int)):(ah 2 aO l).flat=True:=lV (fun _=>rfl)
attribute [go_sem] afZ bY Jb as7
theorem atd (o:Option (Int×Int)):decP bY (.pt o.isSome [.int .i64 (o.getD default).1,.int .i64 (o.getD default).2])=o:=by have:=pX afX o; rwa [afZ] at this
attribute [go_sem] atd
abbrev aj:=List ((List (Int×Int)))
def aN (x:au):List D:=[ah 2 aO x]
theorem aey (x:au):aN x=[ah 2 aO x]:=by rw [aN]
def bP:List D→au
 | [a]=>aG bY a
 | _=>default
theorem ael (x:au):bP (aN x)=x:=by simp only [bP,aN,Jb]
theorem MS (l:List (au)):aG bP (ah 1 aN l)=l:=bZ _ _ _ _ ael
theorem aex {l:List (au)} {d:D} (h:jX 2 aO l d):qh d (ah 1 aN l)=True:=jd (fun _=>rfl) h
theorem aa2 (l:List (au)):jX 2 aO l (ah 1 aN l)=True:=je (fun _=>rfl) l
attribute [go_sem] aex aa2
attribute [go_sem] aey bP MS
def nU (x:aj):List D:=[ah 1 aN x]
theorem Xl (x:aj):nU x=[ah 1 aN x]:=by rw [nU]
def xB:List D→aj
 | [a]=>aG bP a
 | _=>default
theorem WQ (x:aj):xB (nU x)=x:=by simp only [xB,nU,MS]
theorem Qb (l:List (aj)):aG xB (ah 1 nU l)=l:=bZ _ _ _ _ WQ
theorem Xj {l:List (aj)} {d:D} (h:jX 1 aN l d):qh d (ah 1 nU l)=True:=jd (fun _=>rfl) h
theorem Qi (l:List (aj)):jX 1 aN l (ah 1 nU l)=True:=je (fun _=>rfl) l
attribute [go_sem] Xj Qi
attribute [go_sem] Xl xB Qb
def DI (x:aZ):List D:=[ah 1 cO x]
theorem aja (x:aZ):DI x=[ah 1 cO x]:=by rw [DI]
def U6:List D→aZ
 | [a]=>aG jM a
 | _=>default
theorem ai2 (x:aZ):U6 (DI x)=x:=by simp only [U6,DI,Vd]
theorem aeB (l:List (aZ)):aG U6 (ah 1 DI l)=l:=bZ _ _ _ _ ai2
theorem ai9 {l:List (aZ)} {d:D} (h:jX 1 cO l d):qh d (ah 1 DI l)=True:=jd (fun _=>rfl) h
theorem aeL (l:List (aZ)):jX 1 cO l (ah 1 DI l)=True:=je (fun _=>rfl) l
attribute [go_sem] ai9 aeL
attribute [go_sem] aja U6 aeB
def kP (x:bC):List D:=[ah 6 bD x]
theorem MP (x:bC):kP x=[ah 6 bD x]:=by rw [kP]
def qG:List D→bC
 | [a]=>aG fM a
 | _=>default
theorem LV (x:bC):qG (kP x)=x:=by simp only [qG,kP,vK]
theorem Ja (l:List (bC)):aG qG (ah 1 kP l)=l:=bZ _ _ _ _ LV
theorem MK {l:List (bC)} {d:D} (h:jX 6 bD l d):qh d (ah 1 kP l)=True:=jd (fun _=>rfl) h
theorem Jh (l:List (bC)):jX 6 bD l (ah 1 kP l)=True:=je (fun _=>rfl) l
attribute [go_sem] MK Jh
attribute [go_sem] MP qG Ja
def d_B (x:Bool):List D:=[.bool x]
theorem aAR (x:Bool):d_B x=[.bool x]:=by rw [d_B]
def g_B:List D→Bool
 | [.bool a]=>a
 | _=>default
theorem aAu (x:Bool):g_B (d_B x)=x:=by rfl
theorem ath (l:List (Bool)):aG g_B (ah 1 d_B l)=l:=bZ _ _ _ _ aAu
theorem aAB (l:List (Bool)):(ah 1 d_B l).flat=True:=lV (fun _=>rfl)
attribute [go_sem] aAR g_B ath aAB
abbrev uT:=List (Nat×Int×Int)
def uO (x:Nat×Int×Int):List D:=[.fn x.1,.int .i64 x.2.1,.int .i64 x.2.2]
theorem ajb (x:Nat×Int×Int):uO x=[.fn x.1,.int .i64 x.2.1,.int .i64 x.2.2]:=by rw [uO]
def U7:List D→Nat×Int×Int
 | [.fn a,.int _ b,.int _ c]=>(a,b,c)
 | _=>default
theorem ai3 (x:Nat×Int×Int):U7 (uO x)=x:=by rfl
theorem Ve (l:List (Nat×Int×Int)):aG U7 (ah 3 uO l)=l:=bZ _ _ _ _ ai3
attribute [go_sem] ajb U7 Ve
def qO (x:uT):List D:=[ah 3 uO x]
theorem aaQ (x:uT):qO x=[ah 3 uO x]:=by rw [qO]
def Am:List D→uT
 | [a]=>aG U7 a
 | _=>default
theorem aas (x:uT):Am (qO x)=x:=by simp only [Am,qO,Ve]
theorem Xt (l:List (uT)):aG Am (ah 1 qO l)=l:=bZ _ _ _ _ aas
theorem aaM {l:List (uT)} {d:D} (h:jX 3 uO l d):qh d (ah 1 qO l)=True:=jd (fun _=>rfl) h
theorem Xy (l:List (uT)):jX 3 uO l (ah 1 qO l)=True:=je (fun _=>rfl) l
attribute [go_sem] aaM Xy
attribute [go_sem] aaQ Am Xt
def d_H (x:Hl):List D:=[hE x]
theorem aAP (x:Hl):d_H x=[hE x]:=by rw [d_H]
def g_H:List D→Hl
 | [a]=>hD a
 | _=>default
theorem aAs (x:Hl):g_H (d_H x)=x:=by simp only [g_H,d_H,aiW]
theorem atf (l:List (Hl)):aG g_H (ah 1 d_H l)=l:=bZ _ _ _ _ aAs
attribute [go_sem] aAP g_H atf
abbrev bg:=List (Int×Int×Int×Int)
def cZ (x:Int×Int×Int×Int):List D:=[.int .i64 x.1,.int .i64 x.2.1,.int .i64 x.2.2.1,.int .i64 x.2.2.2]
theorem Va (x:Int×Int×Int×Int):cZ x=[.int .i64 x.1,.int .i64 x.2.1,.int .i64 x.2.2.1,.int .i64 x.2.2.2]:=by rw [cZ]
def jA:List D→Int×Int×Int×Int
 | [.int _ a,.int _ b,.int _ c,.int _ d]=>(a,b,c,d)
 | _=>default
theorem U4 (x:Int×Int×Int×Int):jA (cZ x)=x:=by rfl
theorem MV (l:List (Int×Int×Int×Int)):aG jA (ah 4 cZ l)=l:=bZ _ _ _ _ U4
theorem aem (l:List (Int×Int×Int×Int)):(ah 4 cZ l).flat=True:=lV (fun _=>rfl)
attribute [go_sem] Va jA MV aem
theorem aez (o:Option (Int×Int×Int×Int)):decP jA (.pt o.isSome [.int .i64 (o.getD default).1,.int .i64 (o.getD default).2.1,.int .i64 (o.getD default).2.2.1,.int .i64 (o.getD default).2.2.2])=o:=by have:=pX U4 o; rwa [Va] at this
attribute [go_sem] aez
def nV (x:bg):List D:=[ah 4 cZ x]
theorem Xm (x:bg):nV x=[ah 4 cZ x]:=by rw [nV]
def xC:List D→bg
 | [a]=>aG jA a
 | _=>default
theorem WR (x:bg):xC (nV x)=x:=by simp only [xC,nV,MV]
theorem Qc (l:List (bg)):aG xC (ah 1 nV l)=l:=bZ _ _ _ _ WR
theorem Xk {l:List (bg)} {d:D} (h:jX 4 cZ l d):qh d (ah 1 nV l)=True:=jd (fun _=>rfl) h
theorem Qj (l:List (bg)):jX 4 cZ l (ah 1 nV l)=True:=je (fun _=>rfl) l
attribute [go_sem] Xk Qj
attribute [go_sem] Xm xC Qc
abbrev aW:=List (Int×Int×Int×Int×Int)
def bU (x:Int×Int×Int×Int×Int):List D:=[.int .i64 x.1,.int .i64 x.2.1,.int .i64 x.2.2.1,.int .i64 x.2.2.2.1,.int .i64 x.2.2.2.2]
theorem MQ (x:Int×Int×Int×Int×Int):bU x=[.int .i64 x.1,.int .i64 x.2.1,.int .i64 x.2.2.1,.int .i64 x.2.2.2.1,.int .i64 x.2.2.2.2]:=by rw [bU]
def gX:List D→Int×Int×Int×Int×Int
 | [.int _ a,.int _ b,.int _ c,.int _ d,.int _ e]=>(a,b,c,d,e)
 | _=>default
theorem LW (x:Int×Int×Int×Int×Int):gX (bU x)=x:=by rfl
theorem FZ (l:List (Int×Int×Int×Int×Int)):aG gX (ah 5 bU l)=l:=bZ _ _ _ _ LW
theorem aau (l:List (Int×Int×Int×Int×Int)):(ah 5 bU l).flat=True:=lV (fun _=>rfl)
attribute [go_sem] MQ gX FZ aau
theorem aaS (o:Option (Int×Int×Int×Int×Int)):decP gX (.pt o.isSome [.int .i64 (o.getD default).1,.int .i64 (o.getD default).2.1,.int .i64 (o.getD default).2.2.1,.int .i64 (o.getD default).2.2.2.1,.int .i64 (o.getD default).2.2.2.2])=o:=by have:=pX LW o; rwa [MQ] at this
attribute [go_sem] aaS
def lM (x:aW):List D:=[ah 5 bU x]
theorem Qa (x:aW):lM x=[ah 5 bU x]:=by rw [lM]
def tY:List D→aW
 | [a]=>aG gX a
 | _=>default
theorem PG (x:aW):tY (lM x)=x:=by simp only [tY,lM,FZ]
theorem MR (l:List (aW)):aG tY (ah 1 lM l)=l:=bZ _ _ _ _ PG
theorem P9 {l:List (aW)} {d:D} (h:jX 5 bU l d):qh d (ah 1 lM l)=True:=jd (fun _=>rfl) h
theorem MZ (l:List (aW)):jX 5 bU l (ah 1 lM l)=True:=je (fun _=>rfl) l
attribute [go_sem] P9 MZ
attribute [go_sem] Qa tY MR
abbrev bf:=List (Int×Int×Int)
def dh (x:Int×Int×Int):List D:=[.int .i64 x.1,.int .i64 x.2.1,.int .i64 x.2.2]
theorem aaR (x:Int×Int×Int):dh x=[.int .i64 x.1,.int .i64 x.2.1,.int .i64 x.2.2]:=by rw [dh]
def jB:List D→Int×Int×Int
 | [.int _ a,.int _ b,.int _ c]=>(a,b,c)
 | _=>default
theorem aat (x:Int×Int×Int):jB (dh x)=x:=by rfl
theorem Vb (l:List (Int×Int×Int)):aG jB (ah 3 dh l)=l:=bZ _ _ _ _ aat
theorem ai4 (l:List (Int×Int×Int)):(ah 3 dh l).flat=True:=lV (fun _=>rfl)
attribute [go_sem] aaR jB Vb ai4
theorem ajc (o:Option (Int×Int×Int)):decP jB (.pt o.isSome [.int .i64 (o.getD default).1,.int .i64 (o.getD default).2.1,.int .i64 (o.getD default).2.2])=o:=by have:=pX aat o; rwa [aaR] at this
attribute [go_sem] ajc
def qN (x:bf):List D:=[ah 3 dh x]
theorem aaP (x:bf):qN x=[ah 3 dh x]:=by rw [qN]
def Ak:List D→bf
 | [a]=>aG jB a
 | _=>default
theorem aar (x:bf):Ak (qN x)=x:=by simp only [Ak,qN,Vb]
theorem Xr (l:List (bf)):aG Ak (ah 1 qN l)=l:=bZ _ _ _ _ aar
theorem aaL {l:List (bf)} {d:D} (h:jX 3 dh l d):qh d (ah 1 qN l)=True:=jd (fun _=>rfl) h
theorem Xx (l:List (bf)):jX 3 dh l (ah 1 qN l)=True:=je (fun _=>rfl) l
attribute [go_sem] aaL Xx
attribute [go_sem] aaP Ak Xr
abbrev bF:=List (Int×(List (Int×Int))×Int)
def bI (x:Int×au×Int):List D:=[.int .i64 x.1,ah 2 aO x.2.1,.int .i64 x.2.2]
theorem FY (x:Int×au×Int):bI x=[.int .i64 x.1,ah 2 aO x.2.1,.int .i64 x.2.2]:=by rw [bI]
def nR:List D→Int×au×Int
 | [.int _ a,b,.int _ c]=>(a,aG bY b,c)
 | _=>default
theorem FI (x:Int×au×Int):nR (bI x)=x:=by simp only [nR,bI,Jb]
theorem DC (l:List (Int×au×Int)):aG nR (ah 3 bI l)=l:=bZ _ _ _ _ FI
attribute [go_sem] FY nR DC
theorem Xq (o:Option (Int×au×Int)):decP nR (.pt o.isSome [.int .i64 (o.getD default).1,ah 2 aO (o.getD default).2.1,.int .i64 (o.getD default).2.2])=o:=by have:=pX FI o; rwa [FY] at this
attribute [go_sem] Xq
def kN (x:bF):List D:=[ah 3 bI x]
theorem MO (x:bF):kN x=[ah 3 bI x]:=by rw [kN]
def qF:List D→bF
 | [a]=>aG nR a
 | _=>default
theorem LU (x:bF):qF (kN x)=x:=by simp only [qF,kN,DC]
theorem I9 (l:List (bF)):aG qF (ah 1 kN l)=l:=bZ _ _ _ _ LU
theorem MJ {l:List (bF)} {d:D} (h:jX 3 bI l d):qh d (ah 1 kN l)=True:=jd (fun _=>rfl) h
theorem Jg (l:List (bF)):jX 3 bI l (ah 1 kN l)=True:=je (fun _=>rfl) l
attribute [go_sem] MJ Jg
attribute [go_sem] MO qF I9
abbrev bQ:=List ((List (Int×Int))×Int×Int)
def dH (x:au×Int×Int):List D:=[ah 2 aO x.1,.int .i64 x.2.1,.int .i64 x.2.2]
theorem Xn (x:au×Int×Int):dH x=[ah 2 aO x.1,.int .i64 x.2.1,.int .i64 x.2.2]:=by rw [dH]
def jT:List D→au×Int×Int
 | [a,.int _ b,.int _ c]=>(aG bY a,b,c)
 | _=>default
theorem WS (x:au×Int×Int):jT (dH x)=x:=by simp only [jT,dH,Jb]
theorem Dy (l:List (au×Int×Int)):aG jT (ah 3 dH l)=l:=bZ _ _ _ _ WS
attribute [go_sem] Xn jT Dy
def kL (x:bQ):List D:=[ah 3 dH x]
theorem ML (x:bQ):kL x=[ah 3 dH x]:=by rw [kL]
def qC:List D→bQ
 | [a]=>aG jT a
 | _=>default
theorem LP (x:bQ):qC (kL x)=x:=by simp only [qC,kL,Dy]
theorem I7 (l:List (bQ)):aG qC (ah 1 kL l)=l:=bZ _ _ _ _ LP
theorem MH {l:List (bQ)} {d:D} (h:jX 3 dH l d):qh d (ah 1 kL l)=True:=jd (fun _=>rfl) h
theorem Je (l:List (bQ)):jX 3 dH l (ah 1 kL l)=True:=je (fun _=>rfl) l
attribute [go_sem] MH Je
attribute [go_sem] ML qC I7
abbrev eU:=List ((List (Int))×(List (Int)))
def fO (x:aZ×aZ):List D:=[ah 1 cO x.1,ah 1 cO x.2]
theorem Xo (x:aZ×aZ):fO x=[ah 1 cO x.1,ah 1 cO x.2]:=by rw [fO]
def sQ:List D→aZ×aZ
 | [a,b]=>(aG jM a,aG jM b)
 | _=>default
theorem WT (x:aZ×aZ):sQ (fO x)=x:=by simp only [sQ,fO,Vd,Vd]
theorem Dz (l:List (aZ×aZ)):aG sQ (ah 2 fO l)=l:=bZ _ _ _ _ WT
attribute [go_sem] Xo sQ Dz
def kM (x:eU):List D:=[ah 2 fO x]
theorem MN (x:eU):kM x=[ah 2 fO x]:=by rw [kM]
def qE:List D→eU
 | [a]=>aG sQ a
 | _=>default
theorem LQ (x:eU):qE (kM x)=x:=by simp only [qE,kM,Dz]
theorem I8 (l:List (eU)):aG qE (ah 1 kM l)=l:=bZ _ _ _ _ LQ
theorem MI {l:List (eU)} {d:D} (h:jX 2 fO l d):qh d (ah 1 kM l)=True:=jd (fun _=>rfl) h
theorem Jf (l:List (eU)):jX 2 fO l (ah 1 kM l)=True:=je (fun _=>rfl) l
attribute [go_sem] MI Jf
attribute [go_sem] MN qE I8
abbrev L_S:=List (ByteArray)
def d_S (x:ByteArray):List D:=[.str x]
theorem aAN (x:ByteArray):d_S x=[.str x]:=by rw [d_S]
def g_S:List D→ByteArray
 | [.str a]=>a
 | _=>default
theorem aAq (x:ByteArray):g_S (d_S x)=x:=by rfl
theorem af2 (l:List (ByteArray)):aG g_S (ah 1 d_S l)=l:=bZ _ _ _ _ aAq
theorem aAy (l:List (ByteArray)):(ah 1 d_S l).flat=True:=lV (fun _=>rfl)
attribute [go_sem] aAN g_S af2 aAy
def d_E (x:Bool):List D:=[.err x]
theorem aAQ (x:Bool):d_E x=[.err x]:=by rw [d_E]
def g_E:List D→Bool
 | [.err a]=>a
 | _=>default
theorem aAt (x:Bool):g_E (d_E x)=x:=by rfl
theorem atg (l:List (Bool)):aG g_E (ah 1 d_E l)=l:=bZ _ _ _ _ aAt
theorem aAA (l:List (Bool)):(ah 1 d_E l).flat=True:=lV (fun _=>rfl)
attribute [go_sem] aAQ g_E atg aAA
def DF (x:L_S):List D:=[ah 1 d_S x]
theorem ai' (x:L_S):DF x=[ah 1 d_S x]:=by rw [DF]
def U5:List D→L_S
 | [a]=>aG g_S a
 | _=>default
theorem ai1 (x:L_S):U5 (DF x)=x:=by simp only [U5,DF,af2]
theorem aeA (l:List (L_S)):aG U5 (ah 1 DF l)=l:=bZ _ _ _ _ ai1
theorem ai8 {l:List (L_S)} {d:D} (h:jX 1 d_S l d):qh d (ah 1 DF l)=True:=jd (fun _=>rfl) h
theorem aeK (l:List (L_S)):jX 1 d_S l (ah 1 DF l)=True:=je (fun _=>rfl) l
attribute [go_sem] ai8 aeK
attribute [go_sem] ai' U5 aeA
attribute [go_sem] vJ Option.isSome_none
theorem w0:(IntKind.i64.wrap (0+1))=1:=by first | rfl | decide | simp
theorem w1:(decide ((0:Int)>0))=false:=by first | rfl | decide | simp
theorem w2:(decide ((1:Int)≤60))=true:=by first | rfl | decide | simp
theorem w3:((((0:Int)) == 0))=true:=by first | rfl | decide | simp
theorem w4:((((0:Int)) != 0))=false:=by first | rfl | decide | simp
theorem w5:((((0:Int)) == 200))=false:=by first | rfl | decide | simp
theorem w6:(IntKind.i64.wrap (0+2))=2:=by first | rfl | decide | simp
theorem w7:(IntKind.i64.wrap (1+1))=2:=by first | rfl | decide | simp
theorem w8:(IntKind.i64.wrap (1+2))=3:=by first | rfl | decide | simp
theorem w9:((((8:Int)) != 0))=true:=by first | rfl | decide | simp
theorem w10:(decide ((0:Int)<4))=true:=by first | rfl | decide | simp
theorem w11:(decide ((1:Int)<4))=true:=by first | rfl | decide | simp
theorem w12:(((1:Int)=0∨(0:Int)<1))=True:=by first | rfl | decide | simp
theorem w13:(decide ((2:Int)<4))=true:=by first | rfl | decide | simp
theorem w14:(((2:Int)=0∨(0:Int)<2))=True:=by first | rfl | decide | simp
theorem w15:(IntKind.i64.wrap (2+1))=3:=by first | rfl | decide | simp
theorem w16:(decide ((3:Int)<4))=true:=by first | rfl | decide | simp
theorem w17:(((3:Int)=0∨(0:Int)<3))=True:=by first | rfl | decide | simp
theorem w18:(IntKind.i64.wrap (3+1))=4:=by first | rfl | decide | simp
theorem w19:(decide ((4:Int)<4))=false:=by first | rfl | decide | simp
theorem w20:(decide ((0:Int)≥0))=true:=by first | rfl | decide | simp
theorem w21:(decide ((-1:Int)≥0))=false:=by first | rfl | decide | simp
theorem w22:(((3:Nat):Int))=3:=by first | rfl | decide | simp
theorem w23:(decide ((0:Int)<3))=true:=by first | rfl | decide | simp
theorem w24:(decide ((1:Int)<3))=true:=by first | rfl | decide | simp
theorem w25:(decide ((2:Int)<3))=true:=by first | rfl | decide | simp
theorem w26:(decide ((3:Int)<3))=false:=by first | rfl | decide | simp
theorem w27:(decide ((0:Int)<7))=true:=by first | rfl | decide | simp
theorem w28:(decide ((1:Int)<7))=true:=by first | rfl | decide | simp
theorem w29:(decide ((2:Int)<7))=true:=by first | rfl | decide | simp
theorem w30:(decide ((3:Int)<7))=true:=by first | rfl | decide | simp
theorem w31:(decide ((4:Int)<7))=true:=by first | rfl | decide | simp
theorem w32:(((4:Int)=0∨(0:Int)<4))=True:=by first | rfl | decide | simp
theorem w33:(IntKind.i64.wrap (4+1))=5:=by first | rfl | decide | simp
theorem w34:(decide ((5:Int)<7))=true:=by first | rfl | decide | simp
theorem w35:(((5:Int)=0∨(0:Int)<5))=True:=by first | rfl | decide | simp
theorem w36:(IntKind.i64.wrap (5+1))=6:=by first | rfl | decide | simp
theorem w37:(decide ((6:Int)<7))=true:=by first | rfl | decide | simp
theorem w38:(((6:Int)=0∨(0:Int)<6))=True:=by first | rfl | decide | simp
theorem w39:(IntKind.i64.wrap (6+1))=7:=by first | rfl | decide | simp
theorem w40:(decide ((7:Int)<7))=false:=by first | rfl | decide | simp
theorem w41:(decide ((0:Int)<201))=true:=by first | rfl | decide | simp
theorem w42:(((#[117,110,116,105,108,32,54,53,48,32,52,48,48,32,53,59,113,117,101,110,99,104,32,49,32,51]:Array UInt8).size:Int))=26:=by first | rfl | decide | simp
theorem w43:(decide ((26:Int)>2000))=false:=by first | rfl | decide | simp
theorem w44:(decide ((5:Int)<0))=false:=by first | rfl | decide | simp
theorem w45:((⟨#[117,110,116,105,108,32,54,53,48,32,52,48,48,32,53,59,113,117,101,110,99,104,32,49,32,51]⟩:ByteArray).extract 0 5)=(⟨#[117,110,116,105,108]⟩:ByteArray):=by first | rfl | decide | simp
theorem w46:((⟨#[117,110,116,105,108,32,54,53,48,32,52,48,48,32,53,59,113,117,101,110,99,104,32,49,32,51]⟩:ByteArray).extract 5 26)=(⟨#[32,54,53,48,32,52,48,48,32,53,59,113,117,101,110,99,104,32,49,32,51]⟩:ByteArray):=by first | rfl | decide | simp
theorem w47:(decide ((0:Int)<6))=true:=by first | rfl | decide | simp
theorem w48:(decide ((⟨#[117,110,116,105,108]⟩:ByteArray)=(⟨#[104,101,97,116]⟩:ByteArray)))=false:=by first | rfl | decide | simp
theorem w49:(decide ((1:Int)<6))=true:=by first | rfl | decide | simp
theorem w50:(decide ((⟨#[117,110,116,105,108]⟩:ByteArray)=(⟨#[100,119,101,108,108]⟩:ByteArray)))=false:=by first | rfl | decide | simp
theorem w51:(decide ((2:Int)<6))=true:=by first | rfl | decide | simp
theorem w52:(decide ((⟨#[117,110,116,105,108]⟩:ByteArray)=(⟨#[113,117,101,110,99,104]⟩:ByteArray)))=false:=by first | rfl | decide | simp
theorem w53:(decide ((3:Int)<6))=true:=by first | rfl | decide | simp
theorem w54:(decide ((⟨#[117,110,116,105,108]⟩:ByteArray)=(⟨#[117,110,116,105,108]⟩:ByteArray)))=true:=by first | rfl | decide | simp
theorem w55:(decide ((3:Int)<0))=false:=by first | rfl | decide | simp
theorem w56:(((#[54,53,48,32,52,48,48,32,53,59,113,117,101,110,99,104,32,49,32,51]:Array UInt8).size:Int))=20:=by first | rfl | decide | simp
theorem w57:((⟨#[54,53,48,32,52,48,48,32,53,59,113,117,101,110,99,104,32,49,32,51]⟩:ByteArray).extract 0 3)=(⟨#[54,53,48]⟩:ByteArray):=by first | rfl | decide | simp
theorem w58:((⟨#[54,53,48,32,52,48,48,32,53,59,113,117,101,110,99,104,32,49,32,51]⟩:ByteArray).extract 3 20)=(⟨#[32,52,48,48,32,53,59,113,117,101,110,99,104,32,49,32,51]⟩:ByteArray):=by first | rfl | decide | simp
theorem w59:(((#[52,48,48,32,53,59,113,117,101,110,99,104,32,49,32,51]:Array UInt8).size:Int))=16:=by first | rfl | decide | simp
theorem w60:((⟨#[52,48,48,32,53,59,113,117,101,110,99,104,32,49,32,51]⟩:ByteArray).extract 0 3)=(⟨#[52,48,48]⟩:ByteArray):=by first | rfl | decide | simp
theorem w61:((⟨#[52,48,48,32,53,59,113,117,101,110,99,104,32,49,32,51]⟩:ByteArray).extract 3 16)=(⟨#[32,53,59,113,117,101,110,99,104,32,49,32,51]⟩:ByteArray):=by first | rfl | decide | simp
theorem w62:(decide ((1:Int)<0))=false:=by first | rfl | decide | simp
theorem w63:(((#[53,59,113,117,101,110,99,104,32,49,32,51]:Array UInt8).size:Int))=12:=by first | rfl | decide | simp
theorem w64:((⟨#[53,59,113,117,101,110,99,104,32,49,32,51]⟩:ByteArray).extract 0 1)=(⟨#[53]⟩:ByteArray):=by first | rfl | decide | simp
theorem w65:((⟨#[53,59,113,117,101,110,99,104,32,49,32,51]⟩:ByteArray).extract 1 12)=(⟨#[59,113,117,101,110,99,104,32,49,32,51]⟩:ByteArray):=by first | rfl | decide | simp
theorem w66:((((3:Int)) != 5))=true:=by first | rfl | decide | simp
theorem w67:(decide ((6:Int)<0))=false:=by first | rfl | decide | simp
theorem w68:(((#[113,117,101,110,99,104,32,49,32,51]:Array UInt8).size:Int))=10:=by first | rfl | decide | simp
theorem w69:((⟨#[113,117,101,110,99,104,32,49,32,51]⟩:ByteArray).extract 0 6)=(⟨#[113,117,101,110,99,104]⟩:ByteArray):=by first | rfl | decide | simp
theorem w70:((⟨#[113,117,101,110,99,104,32,49,32,51]⟩:ByteArray).extract 6 10)=(⟨#[32,49,32,51]⟩:ByteArray):=by first | rfl | decide | simp
theorem w71:(decide ((⟨#[113,117,101,110,99,104]⟩:ByteArray)=(⟨#[104,101,97,116]⟩:ByteArray)))=false:=by first | rfl | decide | simp
theorem w72:(decide ((⟨#[113,117,101,110,99,104]⟩:ByteArray)=(⟨#[100,119,101,108,108]⟩:ByteArray)))=false:=by first | rfl | decide | simp
theorem w73:(decide ((⟨#[113,117,101,110,99,104]⟩:ByteArray)=(⟨#[113,117,101,110,99,104]⟩:ByteArray)))=true:=by first | rfl | decide | simp
theorem w74:(((2:Nat):Int))=2:=by first | rfl | decide | simp
theorem w75:(decide ((0:Int)<2))=true:=by first | rfl | decide | simp
theorem w76:(((#[49,32,51]:Array UInt8).size:Int))=3:=by first | rfl | decide | simp
theorem w77:((⟨#[49,32,51]⟩:ByteArray).extract 0 1)=(⟨#[49]⟩:ByteArray):=by first | rfl | decide | simp
theorem w78:((⟨#[49,32,51]⟩:ByteArray).extract 1 3)=(⟨#[32,51]⟩:ByteArray):=by first | rfl | decide | simp
theorem w79:(decide ((1:Int)<2))=true:=by first | rfl | decide | simp
theorem w80:(decide ((-1:Int)<0))=true:=by first | rfl | decide | simp
theorem w81:(((#[51]:Array UInt8).size:Int))=1:=by first | rfl | decide | simp
theorem w82:((⟨#[51]⟩:ByteArray).extract 0 1)=(⟨#[51]⟩:ByteArray):=by first | rfl | decide | simp
theorem w83:((⟨#[51]⟩:ByteArray).extract 1 1)=(⟨#[]⟩:ByteArray):=by first | rfl | decide | simp
theorem w84:(decide ((2:Int)<2))=false:=by first | rfl | decide | simp
theorem w85:((((2:Int)) != 5))=true:=by first | rfl | decide | simp
theorem w86:(decide ((⟨#[]⟩:ByteArray)=(⟨#[]⟩:ByteArray)))=true:=by first | rfl | decide | simp
theorem w87:(IntKind.i64.wrap (1 - 1))=0:=by first | rfl | decide | simp
attribute [go_sem] w0 w1 w2 w3 w4 w5 w6 w7 w8 w9 w10 w11 w12 w13 w14 w15 w16 w17 w18 w19 w20 w21 w22 w23 w24 w25 w26 w27 w28 w29 w30 w31 w32 w33 w34 w35 w36 w37 w38 w39 w40 w41 w42 w43 w44 w45 w46 w47 w48 w49 w50 w51 w52 w53 w54 w55 w56 w57 w58 w59 w60 w61 w62 w63 w64 w65 w66 w67 w68 w69 w70 w71 w72 w73 w74 w75 w76 w77 w78 w79 w80 w81 w82 w83 w84 w85 w86 w87
section
variable {γ a0 a1 a2 a3 a4 a5 a6 a7 a8 a9 a10 a11 a12 jL kH kF a16 a17 mW o9 a20 a21 a22 a23 a24 a25 a26 a27 a28 a29:Type} (x:Unit) (x0:a0) (x1:a1) (x2:a2) (x3:a3) (x4:a4) (x5:a5) (x6:a6) (x7:a7) (x8:a8) (x9:a9) (x10:a10) (x11:a11) (x12:a12) (dP:jL) (x14:kH) (x15:kF) (x16:a16) (x17:a17) (x18:mW) (x19:o9) (x20:a20) (x21:a21) (rJ:a22) (x23:a23) (x24:a24) (x25:a25) (EM:a26) (x27:a27) (x28:a28) (x29:a29)
def u0 (f:γ):Unit→γ:=fun _=>f
theorem uq0 (f:γ):u0 f x=f:=(rfl)
def u1 (f:a0→γ):a0→γ:=f
theorem qU (f:a0→γ):u1 f x0=f x0:=(rfl)
def u2 (f:a0→a1→γ):a0×a1→γ:=fun (x0,x1)=>f x0 x1
theorem wo (f:a0→a1→γ):u2 f (x0,x1)=f x0 x1:=(rfl)
def u3 (f:a0→a1→a2→γ):a0×a1×a2→γ:=fun (x0,x1,x2)=>f x0 x1 x2
theorem XP (f:a0→a1→a2→γ):u3 f (x0,x1,x2)=f x0 x1 x2:=(rfl)
def u4 (f:a0→a1→a2→a3→γ):a0×a1×a2×a3→γ:=fun (x0,x1,x2,x3)=>f x0 x1 x2 x3
theorem uq4 (f:a0→a1→a2→a3→γ):u4 f (x0,x1,x2,x3)=f x0 x1 x2 x3:=(rfl)
def u5 (f:a0→a1→a2→a3→a4→γ):a0×a1×a2×a3×a4→γ:=fun (x0,x1,x2,x3,x4)=>f x0 x1 x2 x3 x4
theorem uq5 (f:a0→a1→a2→a3→a4→γ):u5 f (x0,x1,x2,x3,x4)=f x0 x1 x2 x3 x4:=(rfl)
def u6 (f:a0→a1→a2→a3→a4→a5→γ):a0×a1×a2×a3×a4×a5→γ:=fun (x0,x1,x2,x3,x4,x5)=>f x0 x1 x2 x3 x4 x5
theorem Vy (f:a0→a1→a2→a3→a4→a5→γ):u6 f (x0,x1,x2,x3,x4,x5)=f x0 x1 x2 x3 x4 x5:=(rfl)
def u7 (f:a0→a1→a2→a3→a4→a5→a6→γ):a0×a1×a2×a3×a4×a5×a6→γ:=fun (x0,x1,x2,x3,x4,x5,x6)=>f x0 x1 x2 x3 x4 x5 x6
theorem GY (f:a0→a1→a2→a3→a4→a5→a6→γ):u7 f (x0,x1,x2,x3,x4,x5,x6)=f x0 x1 x2 x3 x4 x5 x6:=(rfl)
def u8 (f:a0→a1→a2→a3→a4→a5→a6→a7→γ):a0×a1×a2×a3×a4×a5×a6×a7→γ:=fun (x0,x1,x2,x3,x4,x5,x6,x7)=>f x0 x1 x2 x3 x4 x5 x6 x7
theorem uq8 (f:a0→a1→a2→a3→a4→a5→a6→a7→γ):u8 f (x0,x1,x2,x3,x4,x5,x6,x7)=f x0 x1 x2 x3 x4 x5 x6 x7:=(rfl)
def u9 (f:a0→a1→a2→a3→a4→a5→a6→a7→a8→γ):a0×a1×a2×a3×a4×a5×a6×a7×a8→γ:=fun (x0,x1,x2,x3,x4,x5,x6,x7,x8)=>f x0 x1 x2 x3 x4 x5 x6 x7 x8
theorem NC (f:a0→a1→a2→a3→a4→a5→a6→a7→a8→γ):u9 f (x0,x1,x2,x3,x4,x5,x6,x7,x8)=f x0 x1 x2 x3 x4 x5 x6 x7 x8:=(rfl)
def u10 (f:a0→a1→a2→a3→a4→a5→a6→a7→a8→a9→γ):a0×a1×a2×a3×a4×a5×a6×a7×a8×a9→γ:=fun (x0,x1,x2,x3,x4,x5,x6,x7,x8,x9)=>f x0 x1 x2 x3 x4 x5 x6 x7 x8 x9
theorem xU (f:a0→a1→a2→a3→a4→a5→a6→a7→a8→a9→γ):u10 f (x0,x1,x2,x3,x4,x5,x6,x7,x8,x9)=f x0 x1 x2 x3 x4 x5 x6 x7 x8 x9:=(rfl)
def u11 (f:a0→a1→a2→a3→a4→a5→a6→a7→a8→a9→a10→γ):a0×a1×a2×a3×a4×a5×a6×a7×a8×a9×a10→γ:=fun (x0,x1,x2,x3,x4,x5,x6,x7,x8,x9,x10)=>f x0 x1 x2 x3 x4 x5 x6 x7 x8 x9 x10
theorem X3 (f:a0→a1→a2→a3→a4→a5→a6→a7→a8→a9→a10→γ):u11 f (x0,x1,x2,x3,x4,x5,x6,x7,x8,x9,x10)=f x0 x1 x2 x3 x4 x5 x6 x7 x8 x9 x10:=(rfl)
def u12 (f:a0→a1→a2→a3→a4→a5→a6→a7→a8→a9→a10→a11→γ):a0×a1×a2×a3×a4×a5×a6×a7×a8×a9×a10×a11→γ:=fun (x0,x1,x2,x3,x4,x5,x6,x7,x8,x9,x10,x11)=>f x0 x1 x2 x3 x4 x5 x6 x7 x8 x9 x10 x11
theorem akF (f:a0→a1→a2→a3→a4→a5→a6→a7→a8→a9→a10→a11→γ):u12 f (x0,x1,x2,x3,x4,x5,x6,x7,x8,x9,x10,x11)=f x0 x1 x2 x3 x4 x5 x6 x7 x8 x9 x10 x11:=(rfl)
def u13 (f:a0→a1→a2→a3→a4→a5→a6→a7→a8→a9→a10→a11→a12→γ):a0×a1×a2×a3×a4×a5×a6×a7×a8×a9×a10×a11×a12→γ:=fun (x0,x1,x2,x3,x4,x5,x6,x7,x8,x9,x10,x11,x12)=>f x0 x1 x2 x3 x4 x5 x6 x7 x8 x9 x10 x11 x12
theorem avR (f:a0→a1→a2→a3→a4→a5→a6→a7→a8→a9→a10→a11→a12→γ):u13 f (x0,x1,x2,x3,x4,x5,x6,x7,x8,x9,x10,x11,x12)=f x0 x1 x2 x3 x4 x5 x6 x7 x8 x9 x10 x11 x12:=(rfl)
def u14 (f:a0→a1→a2→a3→a4→a5→a6→a7→a8→a9→a10→a11→a12→jL→γ):a0×a1×a2×a3×a4×a5×a6×a7×a8×a9×a10×a11×a12×jL→γ:=fun (x0,x1,x2,x3,x4,x5,x6,x7,x8,x9,x10,x11,x12,dP)=>f x0 x1 x2 x3 x4 x5 x6 x7 x8 x9 x10 x11 x12 dP
theorem agv (f:a0→a1→a2→a3→a4→a5→a6→a7→a8→a9→a10→a11→a12→jL→γ):u14 f (x0,x1,x2,x3,x4,x5,x6,x7,x8,x9,x10,x11,x12,dP)=f x0 x1 x2 x3 x4 x5 x6 x7 x8 x9 x10 x11 x12 dP:=(rfl)
def u16 (f:a0→a1→a2→a3→a4→a5→a6→a7→a8→a9→a10→a11→a12→jL→kH→kF→γ):a0×a1×a2×a3×a4×a5×a6×a7×a8×a9×a10×a11×a12×jL×kH×kF→γ:=fun (x0,x1,x2,x3,x4,x5,x6,x7,x8,x9,x10,x11,x12,dP,x14,x15)=>f x0 x1 x2 x3 x4 x5 x6 x7 x8 x9 x10 x11 x12 dP x14 x15
theorem akE (f:a0→a1→a2→a3→a4→a5→a6→a7→a8→a9→a10→a11→a12→jL→kH→kF→γ):u16 f (x0,x1,x2,x3,x4,x5,x6,x7,x8,x9,x10,x11,x12,dP,x14,x15)=f x0 x1 x2 x3 x4 x5 x6 x7 x8 x9 x10 x11 x12 dP x14 x15:=(rfl)
def u17 (f:a0→a1→a2→a3→a4→a5→a6→a7→a8→a9→a10→a11→a12→jL→kH→kF→a16→γ):a0×a1×a2×a3×a4×a5×a6×a7×a8×a9×a10×a11×a12×jL×kH×kF×a16→γ:=fun (x0,x1,x2,x3,x4,x5,x6,x7,x8,x9,x10,x11,x12,dP,x14,x15,x16)=>f x0 x1 x2 x3 x4 x5 x6 x7 x8 x9 x10 x11 x12 dP x14 x15 x16
theorem akD (f:a0→a1→a2→a3→a4→a5→a6→a7→a8→a9→a10→a11→a12→jL→kH→kF→a16→γ):u17 f (x0,x1,x2,x3,x4,x5,x6,x7,x8,x9,x10,x11,x12,dP,x14,x15,x16)=f x0 x1 x2 x3 x4 x5 x6 x7 x8 x9 x10 x11 x12 dP x14 x15 x16:=(rfl)
def u18 (f:a0→a1→a2→a3→a4→a5→a6→a7→a8→a9→a10→a11→a12→jL→kH→kF→a16→a17→γ):a0×a1×a2×a3×a4×a5×a6×a7×a8×a9×a10×a11×a12×jL×kH×kF×a16×a17→γ:=fun (x0,x1,x2,x3,x4,x5,x6,x7,x8,x9,x10,x11,x12,dP,x14,x15,x16,x17)=>f x0 x1 x2 x3 x4 x5 x6 x7 x8 x9 x10 x11 x12 dP x14 x15 x16 x17
theorem akC (f:a0→a1→a2→a3→a4→a5→a6→a7→a8→a9→a10→a11→a12→jL→kH→kF→a16→a17→γ):u18 f (x0,x1,x2,x3,x4,x5,x6,x7,x8,x9,x10,x11,x12,dP,x14,x15,x16,x17)=f x0 x1 x2 x3 x4 x5 x6 x7 x8 x9 x10 x11 x12 dP x14 x15 x16 x17:=(rfl)
def u19 (f:a0→a1→a2→a3→a4→a5→a6→a7→a8→a9→a10→a11→a12→jL→kH→kF→a16→a17→mW→γ):a0×a1×a2×a3×a4×a5×a6×a7×a8×a9×a10×a11×a12×jL×kH×kF×a16×a17×mW→γ:=fun (x0,x1,x2,x3,x4,x5,x6,x7,x8,x9,x10,x11,x12,dP,x14,x15,x16,x17,x18)=>f x0 x1 x2 x3 x4 x5 x6 x7 x8 x9 x10 x11 x12 dP x14 x15 x16 x17 x18
theorem ace (f:a0→a1→a2→a3→a4→a5→a6→a7→a8→a9→a10→a11→a12→jL→kH→kF→a16→a17→mW→γ):u19 f (x0,x1,x2,x3,x4,x5,x6,x7,x8,x9,x10,x11,x12,dP,x14,x15,x16,x17,x18)=f x0 x1 x2 x3 x4 x5 x6 x7 x8 x9 x10 x11 x12 dP x14 x15 x16 x17 x18:=(rfl)
def u20 (f:a0→a1→a2→a3→a4→a5→a6→a7→a8→a9→a10→a11→a12→jL→kH→kF→a16→a17→mW→o9→γ):a0×a1×a2×a3×a4×a5×a6×a7×a8×a9×a10×a11×a12×jL×kH×kF×a16×a17×mW×o9→γ:=fun (x0,x1,x2,x3,x4,x5,x6,x7,x8,x9,x10,x11,x12,dP,x14,x15,x16,x17,x18,x19)=>f x0 x1 x2 x3 x4 x5 x6 x7 x8 x9 x10 x11 x12 dP x14 x15 x16 x17 x18 x19
theorem agu (f:a0→a1→a2→a3→a4→a5→a6→a7→a8→a9→a10→a11→a12→jL→kH→kF→a16→a17→mW→o9→γ):u20 f (x0,x1,x2,x3,x4,x5,x6,x7,x8,x9,x10,x11,x12,dP,x14,x15,x16,x17,x18,x19)=f x0 x1 x2 x3 x4 x5 x6 x7 x8 x9 x10 x11 x12 dP x14 x15 x16 x17 x18 x19:=(rfl)
def u22 (f:a0→a1→a2→a3→a4→a5→a6→a7→a8→a9→a10→a11→a12→jL→kH→kF→a16→a17→mW→o9→a20→a21→γ):a0×a1×a2×a3×a4×a5×a6×a7×a8×a9×a10×a11×a12×jL×kH×kF×a16×a17×mW×o9×a20×a21→γ:=fun (x0,x1,x2,x3,x4,x5,x6,x7,x8,x9,x10,x11,x12,dP,x14,x15,x16,x17,x18,x19,x20,x21)=>f x0 x1 x2 x3 x4 x5 x6 x7 x8 x9 x10 x11 x12 dP x14 x15 x16 x17 x18 x19 x20 x21
theorem akB (f:a0→a1→a2→a3→a4→a5→a6→a7→a8→a9→a10→a11→a12→jL→kH→kF→a16→a17→mW→o9→a20→a21→γ):u22 f (x0,x1,x2,x3,x4,x5,x6,x7,x8,x9,x10,x11,x12,dP,x14,x15,x16,x17,x18,x19,x20,x21)=f x0 x1 x2 x3 x4 x5 x6 x7 x8 x9 x10 x11 x12 dP x14 x15 x16 x17 x18 x19 x20 x21:=(rfl)
def u23 (f:a0→a1→a2→a3→a4→a5→a6→a7→a8→a9→a10→a11→a12→jL→kH→kF→a16→a17→mW→o9→a20→a21→a22→γ):a0×a1×a2×a3×a4×a5×a6×a7×a8×a9×a10×a11×a12×jL×kH×kF×a16×a17×mW×o9×a20×a21×a22→γ:=fun (x0,x1,x2,x3,x4,x5,x6,x7,x8,x9,x10,x11,x12,dP,x14,x15,x16,x17,x18,x19,x20,x21,rJ)=>f x0 x1 x2 x3 x4 x5 x6 x7 x8 x9 x10 x11 x12 dP x14 x15 x16 x17 x18 x19 x20 x21 rJ
theorem acd (f:a0→a1→a2→a3→a4→a5→a6→a7→a8→a9→a10→a11→a12→jL→kH→kF→a16→a17→mW→o9→a20→a21→a22→γ):u23 f (x0,x1,x2,x3,x4,x5,x6,x7,x8,x9,x10,x11,x12,dP,x14,x15,x16,x17,x18,x19,x20,x21,rJ)=f x0 x1 x2 x3 x4 x5 x6 x7 x8 x9 x10 x11 x12 dP x14 x15 x16 x17 x18 x19 x20 x21 rJ:=(rfl)
def u24 (f:a0→a1→a2→a3→a4→a5→a6→a7→a8→a9→a10→a11→a12→jL→kH→kF→a16→a17→mW→o9→a20→a21→a22→a23→γ):a0×a1×a2×a3×a4×a5×a6×a7×a8×a9×a10×a11×a12×jL×kH×kF×a16×a17×mW×o9×a20×a21×a22×a23→γ:=fun (x0,x1,x2,x3,x4,x5,x6,x7,x8,x9,x10,x11,x12,dP,x14,x15,x16,x17,x18,x19,x20,x21,rJ,x23)=>f x0 x1 x2 x3 x4 x5 x6 x7 x8 x9 x10 x11 x12 dP x14 x15 x16 x17 x18 x19 x20 x21 rJ x23
theorem akA (f:a0→a1→a2→a3→a4→a5→a6→a7→a8→a9→a10→a11→a12→jL→kH→kF→a16→a17→mW→o9→a20→a21→a22→a23→γ):u24 f (x0,x1,x2,x3,x4,x5,x6,x7,x8,x9,x10,x11,x12,dP,x14,x15,x16,x17,x18,x19,x20,x21,rJ,x23)=f x0 x1 x2 x3 x4 x5 x6 x7 x8 x9 x10 x11 x12 dP x14 x15 x16 x17 x18 x19 x20 x21 rJ x23:=(rfl)
def u28 (f:a0→a1→a2→a3→a4→a5→a6→a7→a8→a9→a10→a11→a12→jL→kH→kF→a16→a17→mW→o9→a20→a21→a22→a23→a24→a25→a26→a27→γ):a0×a1×a2×a3×a4×a5×a6×a7×a8×a9×a10×a11×a12×jL×kH×kF×a16×a17×mW×o9×a20×a21×a22×a23×a24×a25×a26×a27→γ:=fun (x0,x1,x2,x3,x4,x5,x6,x7,x8,x9,x10,x11,x12,dP,x14,x15,x16,x17,x18,x19,x20,x21,rJ,x23,x24,x25,EM,x27)=>f x0 x1 x2 x3 x4 x5 x6 x7 x8 x9 x10 x11 x12 dP x14 x15 x16 x17 x18 x19 x20 x21 rJ x23 x24 x25 EM x27
theorem akz (f:a0→a1→a2→a3→a4→a5→a6→a7→a8→a9→a10→a11→a12→jL→kH→kF→a16→a17→mW→o9→a20→a21→a22→a23→a24→a25→a26→a27→γ):u28 f (x0,x1,x2,x3,x4,x5,x6,x7,x8,x9,x10,x11,x12,dP,x14,x15,x16,x17,x18,x19,x20,x21,rJ,x23,x24,x25,EM,x27)=f x0 x1 x2 x3 x4 x5 x6 x7 x8 x9 x10 x11 x12 dP x14 x15 x16 x17 x18 x19 x20 x21 rJ x23 x24 x25 EM x27:=(rfl)
def u29 (f:a0→a1→a2→a3→a4→a5→a6→a7→a8→a9→a10→a11→a12→jL→kH→kF→a16→a17→mW→o9→a20→a21→a22→a23→a24→a25→a26→a27→a28→γ):a0×a1×a2×a3×a4×a5×a6×a7×a8×a9×a10×a11×a12×jL×kH×kF×a16×a17×mW×o9×a20×a21×a22×a23×a24×a25×a26×a27×a28→γ:=fun (x0,x1,x2,x3,x4,x5,x6,x7,x8,x9,x10,x11,x12,dP,x14,x15,x16,x17,x18,x19,x20,x21,rJ,x23,x24,x25,EM,x27,x28)=>f x0 x1 x2 x3 x4 x5 x6 x7 x8 x9 x10 x11 x12 dP x14 x15 x16 x17 x18 x19 x20 x21 rJ x23 x24 x25 EM x27 x28
theorem aky (f:a0→a1→a2→a3→a4→a5→a6→a7→a8→a9→a10→a11→a12→jL→kH→kF→a16→a17→mW→o9→a20→a21→a22→a23→a24→a25→a26→a27→a28→γ):u29 f (x0,x1,x2,x3,x4,x5,x6,x7,x8,x9,x10,x11,x12,dP,x14,x15,x16,x17,x18,x19,x20,x21,rJ,x23,x24,x25,EM,x27,x28)=f x0 x1 x2 x3 x4 x5 x6 x7 x8 x9 x10 x11 x12 dP x14 x15 x16 x17 x18 x19 x20 x21 rJ x23 x24 x25 EM x27 x28:=(rfl)
def u30 (f:a0→a1→a2→a3→a4→a5→a6→a7→a8→a9→a10→a11→a12→jL→kH→kF→a16→a17→mW→o9→a20→a21→a22→a23→a24→a25→a26→a27→a28→a29→γ):a0×a1×a2×a3×a4×a5×a6×a7×a8×a9×a10×a11×a12×jL×kH×kF×a16×a17×mW×o9×a20×a21×a22×a23×a24×a25×a26×a27×a28×a29→γ:=fun (x0,x1,x2,x3,x4,x5,x6,x7,x8,x9,x10,x11,x12,dP,x14,x15,x16,x17,x18,x19,x20,x21,rJ,x23,x24,x25,EM,x27,x28,x29)=>f x0 x1 x2 x3 x4 x5 x6 x7 x8 x9 x10 x11 x12 dP x14 x15 x16 x17 x18 x19 x20 x21 rJ x23 x24 x25 EM x27 x28 x29
theorem akx (f:a0→a1→a2→a3→a4→a5→a6→a7→a8→a9→a10→a11→a12→jL→kH→kF→a16→a17→mW→o9→a20→a21→a22→a23→a24→a25→a26→a27→a28→a29→γ):u30 f (x0,x1,x2,x3,x4,x5,x6,x7,x8,x9,x10,x11,x12,dP,x14,x15,x16,x17,x18,x19,x20,x21,rJ,x23,x24,x25,EM,x27,x28,x29)=f x0 x1 x2 x3 x4 x5 x6 x7 x8 x9 x10 x11 x12 dP x14 x15 x16 x17 x18 x19 x20 x21 rJ x23 x24 x25 EM x27 x28 x29:=(rfl)
end
attribute [go_sem] uq0 qU wo XP uq4 uq5 Vy GY uq8 NC xU X3 akF avR agv akE akD akC ace agu akB acd akA akz aky akx
theorem vm {α β:Type} [Inhabited β] {tb:og} {f:Nat} {fn:Func} {c:Code} {n:Nat} {e:α→List Arg} {d:List Arg→α} {g:α→Option β} {u:β→List RV} {al:Bool} (htb:fE Tryz.prog tb) (hf:Tryz.prog.funcs[f]? =some fn) (hn:fn.ntmps=n) (h:∀ x r,g x=some r→∀ stop,agd Tryz.prog ty tb n fn al (u r) stop→stop [.code c] (St.begin (e x))) (hb:fn.body=some c:=by rfl) (hl:∀ x,(e x).length≤n:=by exact fun _=>nL rfl) (hm:(fn.name == "runtime.NumGoroutine")=false:=by decide):aF Tryz.prog f (mkT e d g u al).sp:=
 Q8 bT htb hf hb hn (fun x r hr=>⟨hl x,h x r hr⟩) hm
attribute [go_sem] Tryz.results4 Tryz.results5 Tryz.results6 Tryz.results7 Tryz.results8 Tryz.results9 Tryz.results10 Tryz.results11 Tryz.results12 Tryz.results13 Tryz.results15 Tryz.results16 Tryz.results17 Tryz.results18 Tryz.results19 Tryz.results20 Tryz.results21 Tryz.results22 Tryz.results23 Tryz.results24 Tryz.results25 Tryz.results26 Tryz.results27 Tryz.results28 Tryz.results29 Tryz.results30 Tryz.results31 Tryz.results32 Tryz.results33 Tryz.results34 Tryz.results35 Tryz.results36 Tryz.results37 Tryz.results38 Tryz.results39 Tryz.results40 Tryz.results41 Tryz.results42 Tryz.results43 Tryz.results44 Tryz.results45 Tryz.results46 Tryz.results47 Tryz.results48 Tryz.results51 Tryz.results52 Tryz.results53 Tryz.results54 Tryz.results55 Tryz.results56 Tryz.results57 Tryz.results58 Tryz.results59 Tryz.results60 Tryz.results61 Tryz.results62 Tryz.results63 Tryz.results64 Tryz.results65 Tryz.results66 Tryz.results67 Tryz.results68 Tryz.results69 Tryz.results70 Tryz.results73 Tryz.results74 Tryz.results75 Tryz.results76 Tryz.results77 Tryz.results78 Tryz.results79 Tryz.results80 Tryz.results81 Tryz.results82 Tryz.results83 Tryz.results84 Tryz.results85 Tryz.results86 Tryz.results87 Tryz.results88 Tryz.results89 Tryz.results90 Tryz.results91 Tryz.results92 Tryz.results93 Tryz.results94 Tryz.results95 Tryz.results96 Tryz.results97 Tryz.results98 Tryz.results99 Tryz.results100 Tryz.results101 Tryz.results106 Tryz.results107 Tryz.results108 Tryz.results109 Tryz.results110 Tryz.results111 Tryz.results112 Tryz.results113 Tryz.results114 Tryz.results115 Tryz.results116 Tryz.results117 Tryz.results118 Tryz.results119 Tryz.results120 Tryz.results121 Tryz.results122 Tryz.results123 Tryz.results124 Tryz.results125 Tryz.results126 Tryz.results127 Tryz.results128 Tryz.results129 Tryz.results130 Tryz.results131 Tryz.results132 Tryz.results133 Tryz.results134 Tryz.results135 Tryz.results136 Tryz.results137 Tryz.results138 Tryz.results139 Tryz.results140 Tryz.results141 Tryz.results142 Tryz.results143 Tryz.results144 Tryz.results145 Tryz.results149 Tryz.results150 Tryz.results151 Tryz.results153 Tryz.results154 Tryz.results155 Tryz.results156 Tryz.results157 Tryz.results158 Tryz.results159 Tryz.results160 Tryz.results161 Tryz.results162 Tryz.results164 Tryz.results165 Tryz.results166 Tryz.results167 Tryz.results168 Tryz.results169 Tryz.results170 Tryz.results171 Tryz.results172 Tryz.results173 Tryz.results174 Tryz.results175 Tryz.results176 Tryz.results177 Tryz.results178 Tryz.results179 Tryz.results180 Tryz.results181 Tryz.results182 Tryz.results183 Tryz.results184 Tryz.results191 Tryz.results192 Tryz.results193 Tryz.results194 Tryz.results195 Tryz.results196 Tryz.results197 Tryz.results198 Tryz.results199 Tryz.results200 Tryz.results201 Tryz.results204 Tryz.results205 Tryz.results206 Tryz.results207 Tryz.results208 Tryz.results214 Tryz.results215 Tryz.results216 Tryz.results217 Tryz.results218 Tryz.results219 Tryz.results220 Tryz.results221 Tryz.results222 Tryz.results231 Tryz.results232 Tryz.results233 Tryz.results234 Tryz.results235 Tryz.results236 Tryz.results237 Tryz.results238 Tryz.results239 Tryz.results240 Tryz.results241 Tryz.results242 Tryz.results252 Tryz.results253 Tryz.results254 Tryz.results255 Tryz.results260 Tryz.results261
section
variable {β:Type} [Inhabited β] (u:β→List RV) (al:Bool)
def qw0:List Arg:=[]
def qd0 (_:List Arg):Unit:=()
def qT0 (r:Option β):=mkT (u0 qw0) qd0 (u0 r) u al
attribute [go_sem] qw0 qd0 qT0
def qw1 (a0 a1 a2:Int):List Arg:=[.c (.int .i64 a0),.c (.int .i64 a1),.c (.int .i64 a2)]
def qd1:List Arg→Int×Int×Int
 | [.c c0,.c c1,.c c2]=>(aB c0,aB c1,aB c2)
 | _=>default
def qT1 (r:Int→Int→Int→Option β):=mkT (u3 qw1) qd1 (u3 r) u al
attribute [go_sem] qw1 qd1 qT1
def qw2 (a0:Bool) (a1:Int):List Arg:=[.c (.bool a0),.c (.int .i64 a1)]
def qd2:List Arg→Bool×Int
 | [.c c0,.c c1]=>(aaY c0,aB c1)
 | _=>default
def qT2 (r:Bool→Int→Option β):=mkT (u2 qw2) qd2 (u2 r) u al
attribute [go_sem] qw2 qd2 qT2
def qw3 (a0:aZ):List Arg:=[.c (ah 1 cO a0)]
def qd3:List Arg→aZ
 | [.c c0]=>aG jM c0
 | _=>default
def qT3 (r:aZ→Option β):=mkT (u1 qw3) qd3 (u1 r) u al
attribute [go_sem] qw3 qd3 qT3
def qw4 (a0:Int):List Arg:=[.c (.int .i64 a0)]
def qd4:List Arg→Int
 | [.c c0]=>aB c0
 | _=>default
def Kw (r:Int→Option β):=mkT (u1 qw4) qd4 (u1 r) u al
attribute [go_sem] qw4 qd4 Kw
def qw5 (a0:au):List Arg:=[.c (ah 2 aO a0)]
def qd5:List Arg→au
 | [.c c0]=>aG bY c0
 | _=>default
def qT5 (r:au→Option β):=mkT (u1 qw5) qd5 (u1 r) u al
attribute [go_sem] qw5 qd5 qT5
def qw7 (a0 a1:Int):List Arg:=[.c (.int .i64 a0),.c (.int .i64 a1)]
def qd7:List Arg→Int×Int
 | [.c c0,.c c1]=>(aB c0,aB c1)
 | _=>default
def qT7 (r:Int→Int→Option β):=mkT (u2 qw7) qd7 (u2 r) u al
attribute [go_sem] qw7 qd7 qT7
def aoL (a0 a1:au):List Arg:=[.c (ah 2 aO a0),.c (ah 2 aO a1)]
def aqs:List Arg→au×au
 | [.c c0,.c c1]=>(aG bY c0,aG bY c1)
 | _=>default
def adR (r:au→au→Option β):=mkT (u2 aoL) aqs (u2 r) u al
attribute [go_sem] aoL aqs adR
def aoK (a0 a1:Int) (a2:au) (a3:aj):List Arg:=[.agg [.int .i64 a0,.int .i64 a1,ah 2 aO a2,ah 1 aN a3]]
def aqr:List Arg→Int×Int×au×aj
 | [.agg [c0,c1,c2,c3]]=>(aB c0,aB c1,aG bY c2,aG bP c3)
 | _=>default
def Wq (r:Int→Int→au→aj→Option β):=mkT (u4 aoK) aqr (u4 r) u al
attribute [go_sem] aoK aqr Wq
def aoJ (a0 a1:Int) (a2:au) (a3:aj) (a4:au) (a5:aj) (a6:Int):List Arg:=[.agg [.int .i64 a0,.int .i64 a1,ah 2 aO a2,ah 1 aN a3,ah 2 aO a4,ah 1 aN a5],.c (.int .i64 a6)]
def aqp:List Arg→Int×Int×au×aj×au×aj×Int
 | [.agg [c0,c1,c2,c3,c4,c5],.c c6]=>(aB c0,aB c1,aG bY c2,aG bP c3,aG bY c4,aG bP c5,aB c6)
 | _=>default
def adQ (r:Int→Int→au→aj→au→aj→Int→Option β):=mkT (u7 aoJ) aqp (u7 r) u al
attribute [go_sem] aoJ aqp adQ
def aoI (a0 a1 a2:Int) (a3:au) (a4:aj) (a5:au) (a6:aj):List Arg:=[.c (.int .i64 a0),.ptr [.int .i64 a1,.int .i64 a2,ah 2 aO a3,ah 1 aN a4,ah 2 aO a5,ah 1 aN a6]]
def aqo:List Arg→Int×Int×Int×au×aj×au×aj
 | [.c c0,.ptr [c1,c2,c3,c4,c5,c6]]=>(aB c0,aB c1,aB c2,aG bY c3,aG bP c4,aG bY c5,aG bP c6)
 | _=>default
def ahA (r:Int→Int→Int→au→aj→au→aj→Option β):=mkT (u7 aoI) aqo (u7 r) u al
attribute [go_sem] aoI aqo ahA
def aoE (a0 a1:Int) (a2:au) (a3:aj) (a4 a5:aZ):List Arg:=[.agg [.int .i64 a0,.int .i64 a1,ah 2 aO a2,ah 1 aN a3],.agg [ah 1 cO a4,ah 1 cO a5]]
def aqk:List Arg→Int×Int×au×aj×aZ×aZ
 | [.agg [c0,c1,c2,c3],.agg [c4,c5]]=>(aB c0,aB c1,aG bY c2,aG bP c3,aG jM c4,aG jM c5)
 | _=>default
def YV (r:Int→Int→au→aj→aZ→aZ→Option β):=mkT (u6 aoE) aqk (u6 r) u al
attribute [go_sem] aoE aqk YV
def aoD (a0 a1:Int) (a2:au) (a3:aj) (a4 a5:aZ) (a6:au) (a7 a8:Int):List Arg:=[.agg [.int .i64 a0,.int .i64 a1,ah 2 aO a2,ah 1 aN a3,ah 1 cO a4,ah 1 cO a5,ah 2 aO a6,.int .i64 a7,.int .i64 a8]]
def aqj:List Arg→Int×Int×au×aj×aZ×aZ×au×Int×Int
 | [.agg [c0,c1,c2,c3,c4,c5,c6,c7,c8]]=>(aB c0,aB c1,aG bY c2,aG bP c3,aG jM c4,aG jM c5,aG bY c6,aB c7,aB c8)
 | _=>default
def Ky (r:Int→Int→au→aj→aZ→aZ→au→Int→Int→Option β):=mkT (u9 aoD) aqj (u9 r) u al
attribute [go_sem] aoD aqj Ky
def aoC (a0:bC):List Arg:=[.c (ah 6 bD a0)]
def aqi:List Arg→bC
 | [.c c0]=>aG fM c0
 | _=>default
def adP (r:bC→Option β):=mkT (u1 aoC) aqi (u1 r) u al
attribute [go_sem] aoC aqi adP
def aoz (a0 a1:Int) (a2:au) (a3:aj) (a4:Int):List Arg:=[.agg [.int .i64 a0,.int .i64 a1,ah 2 aO a2,ah 1 aN a3],.c (.int .i64 a4)]
def aqf:List Arg→Int×Int×au×aj×Int
 | [.agg [c0,c1,c2,c3],.c c4]=>(aB c0,aB c1,aG bY c2,aG bP c3,aB c4)
 | _=>default
def adO (r:Int→Int→au→aj→Int→Option β):=mkT (u5 aoz) aqf (u5 r) u al
attribute [go_sem] aoz aqf adO
def aoy (a0 a1:Int) (a2:au) (a3:aj) (a4 a5:aZ) (a6:au) (a7 a8 a9 a10:Int):List Arg:=[.agg [.int .i64 a0,.int .i64 a1,ah 2 aO a2,ah 1 aN a3,ah 1 cO a4,ah 1 cO a5,ah 2 aO a6,.int .i64 a7,.int .i64 a8],.c (.int .i64 a9),.c (.int .i64 a10)]
def aqe:List Arg→Int×Int×au×aj×aZ×aZ×au×Int×Int×Int×Int
 | [.agg [c0,c1,c2,c3,c4,c5,c6,c7,c8],.c c9,.c c10]=>(aB c0,aB c1,aG bY c2,aG bP c3,aG jM c4,aG jM c5,aG bY c6,aB c7,aB c8,aB c9,aB c10)
 | _=>default
def adN (r:Int→Int→au→aj→aZ→aZ→au→Int→Int→Int→Int→Option β):=mkT (u11 aoy) aqe (u11 r) u al
attribute [go_sem] aoy aqe adN
def aox (a0 a1:Int):List Arg:=[.agg [.int .i64 a0,.int .i64 a1]]
def aqd:List Arg→Int×Int
 | [.agg [c0,c1]]=>(aB c0,aB c1)
 | _=>default
def OD (r:Int→Int→Option β):=mkT (u2 aox) aqd (u2 r) u al
attribute [go_sem] aox aqd OD
def aov (a0 a1:Int) (a2:au) (a3:aj) (a4:aZ):List Arg:=[.agg [.int .i64 a0,.int .i64 a1,ah 2 aO a2,ah 1 aN a3],.c (ah 1 cO a4)]
def aqb:List Arg→Int×Int×au×aj×aZ
 | [.agg [c0,c1,c2,c3],.c c4]=>(aB c0,aB c1,aG bY c2,aG bP c3,aG jM c4)
 | _=>default
def adM (r:Int→Int→au→aj→aZ→Option β):=mkT (u5 aov) aqb (u5 r) u al
attribute [go_sem] aov aqb adM
def aon (a0:bg) (a1:aW) (a2:bf) (a3:au) (a4 a5 a6 a7:Int):List Arg:=[.agg [ah 4 cZ a0,ah 5 bU a1,ah 3 dh a2,ah 2 aO a3,.int .i64 a4,.int .i64 a5,.int .i64 a6,.int .i64 a7]]
def ap4:List Arg→bg×aW×bf×au×Int×Int×Int×Int
 | [.agg [c0,c1,c2,c3,c4,c5,c6,c7]]=>(aG jA c0,aG gX c1,aG jB c2,aG bY c3,aB c4,aB c5,aB c6,aB c7)
 | _=>default
def adL (r:bg→aW→bf→au→Int→Int→Int→Int→Option β):=mkT (u8 aon) ap4 (u8 r) u al
attribute [go_sem] aon ap4 adL
def aoj (a0 a1:Int) (a2:au) (a3:aj) (a4 a5:aZ) (a6:au) (a7 a8:Int) (a9:au):List Arg:=[.agg [.int .i64 a0,.int .i64 a1,ah 2 aO a2,ah 1 aN a3,ah 1 cO a4,ah 1 cO a5,ah 2 aO a6,.int .i64 a7,.int .i64 a8],.c (ah 2 aO a9)]
def ap0:List Arg→Int×Int×au×aj×aZ×aZ×au×Int×Int×au
 | [.agg [c0,c1,c2,c3,c4,c5,c6,c7,c8],.c c9]=>(aB c0,aB c1,aG bY c2,aG bP c3,aG jM c4,aG jM c5,aG bY c6,aB c7,aB c8,aG bY c9)
 | _=>default
def BJ (r:Int→Int→au→aj→aZ→aZ→au→Int→Int→au→Option β):=mkT (u10 aoj) ap0 (u10 r) u al
attribute [go_sem] aoj ap0 BJ
def aod (a0 a1:Int) (a2:au) (a3:aj) (a4 a5:aZ) (a6:bQ):List Arg:=[.agg [.int .i64 a0,.int .i64 a1,ah 2 aO a2,ah 1 aN a3],.agg [ah 1 cO a4,ah 1 cO a5],.c (ah 3 dH a6)]
def apU:List Arg→Int×Int×au×aj×aZ×aZ×bQ
 | [.agg [c0,c1,c2,c3],.agg [c4,c5],.c c6]=>(aB c0,aB c1,aG bY c2,aG bP c3,aG jM c4,aG jM c5,aG jT c6)
 | _=>default
def ahv (r:Int→Int→au→aj→aZ→aZ→bQ→Option β):=mkT (u7 aod) apU (u7 r) u al
attribute [go_sem] aod apU ahv
def an' (a0:bg) (a1:aW) (a2:bf) (a3:au) (a4 a5 a6 a7 a8:Int):List Arg:=[.agg [ah 4 cZ a0,ah 5 bU a1,ah 3 dh a2,ah 2 aO a3,.int .i64 a4,.int .i64 a5,.int .i64 a6,.int .i64 a7],.c (.int .i64 a8)]
def apQ:List Arg→bg×aW×bf×au×Int×Int×Int×Int×Int
 | [.agg [c0,c1,c2,c3,c4,c5,c6,c7],.c c8]=>(aG jA c0,aG gX c1,aG jB c2,aG bY c3,aB c4,aB c5,aB c6,aB c7,aB c8)
 | _=>default
def Wp (r:bg→aW→bf→au→Int→Int→Int→Int→Int→Option β):=mkT (u9 an') apQ (u9 r) u al
attribute [go_sem] an' apQ Wp
def anC (a0 a1:Int) (a2:au) (a3:aj) (a4 a5:aZ) (a6:au) (a7 a8:Int) (a9:au) (a10 a11 a12:Int):List Arg:=[.agg [.int .i64 a0,.int .i64 a1,ah 2 aO a2,ah 1 aN a3,ah 1 cO a4,ah 1 cO a5,ah 2 aO a6,.int .i64 a7,.int .i64 a8],.c (ah 2 aO a9),.agg [.int .i64 a10,.int .i64 a11,.int .i64 a12]]
def apf:List Arg→Int×Int×au×aj×aZ×aZ×au×Int×Int×au×Int×Int×Int
 | [.agg [c0,c1,c2,c3,c4,c5,c6,c7,c8],.c c9,.agg [c10,c11,c12]]=>(aB c0,aB c1,aG bY c2,aG bP c3,aG jM c4,aG jM c5,aG bY c6,aB c7,aB c8,aG bY c9,aB c10,aB c11,aB c12)
 | _=>default
def ay9 (r:Int→Int→au→aj→aZ→aZ→au→Int→Int→au→Int→Int→Int→Option β):=mkT (u13 anC) apf (u13 r) u al
attribute [go_sem] anC apf ay9
def qu0 (v:Int×Int×au×aj×aZ×aZ×au×Int×Int):List RV:=[.agg [.d (.int .i64 v.1),.d (.int .i64 v.2.1),.own (ah 2 aO v.2.2.1),.own (ah 1 aN v.2.2.2.1),.own (ah 1 cO v.2.2.2.2.1),.own (ah 1 cO v.2.2.2.2.2.1),.own (ah 2 aO v.2.2.2.2.2.2.1),.d (.int .i64 v.2.2.2.2.2.2.2.1),.d (.int .i64 v.2.2.2.2.2.2.2.2)]]
attribute [go_sem] qu0
def qu1 (v:bC):List RV:=[.c (.own (ah 6 bD v))]
attribute [go_sem] qu1
def qj (v:Bool):List RV:=[.c (.d (.bool v))]
attribute [go_sem] qj
def lF (v:Int):List RV:=[.c (.d (.int .i64 v))]
attribute [go_sem] lF
def JB (v:Int×Int):List RV:=[.c (.d (.int .i64 v.1)),.c (.d (.int .i64 v.2))]
attribute [go_sem] JB
def qu5 (v:au):List RV:=[.c (.own (ah 2 aO v))]
attribute [go_sem] qu5
def qu6 (v:Int×Bool):List RV:=[.c (.d (.int .i64 v.1)),.c (.d (.bool v.2))]
attribute [go_sem] qu6
def qu7 (v:Int×Int):List RV:=[.agg [.d (.int .i64 v.1),.d (.int .i64 v.2)]]
attribute [go_sem] qu7
def qu8 (v:Int×Int×au×aj×au×aj×Int):List RV:=[.agg [.d (.int .i64 v.1),.d (.int .i64 v.2.1),.d (ah 2 aO v.2.2.1),.d (ah 1 aN v.2.2.2.1),.own (ah 2 aO v.2.2.2.2.1),.own (ah 1 aN v.2.2.2.2.2.1)],.c (.d (.int .i64 v.2.2.2.2.2.2))]
attribute [go_sem] qu8
def qu9 (v:Int×Int×au×aj×aZ×aZ×au×Int×Int×Int):List RV:=[.agg [.d (.int .i64 v.1),.d (.int .i64 v.2.1),.d (ah 2 aO v.2.2.1),.d (ah 1 aN v.2.2.2.1),.d (ah 1 cO v.2.2.2.2.1),.d (ah 1 cO v.2.2.2.2.2.1),.d (ah 2 aO v.2.2.2.2.2.2.1),.d (.int .i64 v.2.2.2.2.2.2.2.1),.d (.int .i64 v.2.2.2.2.2.2.2.2.1)],.c (.d (.int .i64 v.2.2.2.2.2.2.2.2.2))]
attribute [go_sem] qu9
def adI (v:au×Int):List RV:=[.c (.own (ah 2 aO v.1)),.c (.d (.int .i64 v.2))]
attribute [go_sem] adI
def ahp (v:bQ):List RV:=[.c (.own (ah 3 dH v))]
attribute [go_sem] ahp
def ahn (v:aj×Int):List RV:=[.c (.own (ah 1 aN v.1)),.c (.d (.int .i64 v.2))]
attribute [go_sem] ahn
def Ib (v:Int×Int×Int×Int×Int×Int×Int×Int×Int×Int×Int×Int×Int×Int):List RV:=[.agg [.d (.int .i64 v.1),.d (.int .i64 v.2.1),.d (.int .i64 v.2.2.1),.d (.int .i64 v.2.2.2.1),.d (.int .i64 v.2.2.2.2.1),.d (.int .i64 v.2.2.2.2.2.1),.d (.int .i64 v.2.2.2.2.2.2.1),.d (.int .i64 v.2.2.2.2.2.2.2.1),.d (.int .i64 v.2.2.2.2.2.2.2.2.1),.d (.int .i64 v.2.2.2.2.2.2.2.2.2.1),.d (.int .i64 v.2.2.2.2.2.2.2.2.2.2.1),.d (.int .i64 v.2.2.2.2.2.2.2.2.2.2.2.1),.d (.int .i64 v.2.2.2.2.2.2.2.2.2.2.2.2.1),.d (.int .i64 v.2.2.2.2.2.2.2.2.2.2.2.2.2)]]
attribute [go_sem] Ib
def adH (v:ByteArray):List RV:=[.c (.d (.str v))]
attribute [go_sem] adH
def YS (v:aZ):List RV:=[.c (.own (ah 1 cO v))]
attribute [go_sem] YS
end
end Go.Proofs.YtofkgmldcjagmaaGreatDoor

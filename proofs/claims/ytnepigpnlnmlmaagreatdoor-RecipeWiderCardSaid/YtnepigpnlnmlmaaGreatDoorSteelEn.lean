/- SteelEnclosed as a plain law. -/
import Derived.Test.YtnepigpnlnmlmaaGreatDoorF07
import Derived.Test.YtnepigpnlnmlmaaGreatDoorF09
import Derived.Test.YtnepigpnlnmlmaaGreatDoorSteelBx
import Derived.Test.YtnepigpnlnmlmaaGreatDoorF08
import Derived.Test.YtnepigpnlnmlmaaGreatDoorSteelF
import Derived.Test.YtnepigpnlnmlmaaGreatDoorF05
set_option linter.unusedVariables false
set_option linter.unusedSimpArgs false
namespace Go.Proofs.YtnepigpnlnmlmaaGreatDoor
open Go.dR
def mX (lo hi:Int):Int:=if (dn lo 1 3000 && dn hi 1 3000)=true then (if lo<=hi then (if hi - lo<=50 then 0 else 8) else 9) else 2
def mG (l:aA):Int:=if 200<l.length then 8 else bC (l.map λx=>mX x.1 x.2)
theorem abC {lo hi:Int} (h:mX lo hi=0):1<=lo/\lo<=hi/\hi<=3000/\hi - lo<=50:=by
 unfold mX at h
 split at h
 ·rename_i h1
  rw [Bool.and_eq_true,dA,dA] at h1
  split at h
  ·split at h
   ·omega
   exact absurd h (by decide)
  exact absurd h (by decide)
 exact absurd h (by decide)
theorem YX {l:aA} (h:mG l=0):l.length<=200/\∀ x∈l,mX x.1 x.2=0:=by
 unfold mG at h
 split at h
 ·exact absurd h (by decide)
 exact ⟨by omega,λx hx=>fz h _ (List.mem_map.2 ⟨x,hx,rfl⟩)⟩
theorem au8 (lo hi:Int):abL lo hi=some (mX lo hi):=by
 unfold abL mX
 simp only [p84,Option.bind_some,p68,p67 _ (show ([bG (dn lo 1 3000) 2,bG (dn hi 1 3000) 2,bG (decide (lo<=hi)) 9]:aV).length<1000000000 by simp)]
 unfold bG
 by_cases h1:dn lo 1 3000=true
 ·by_cases h2:dn hi 1 3000=true
  ·have g1:=dA.1 h1
   have g2:=dA.1 h2
   rw [wI (a:=hi - lo) (by omega) (by omega),h1,h2]
   by_cases h3:lo<=hi
   ·by_cases h4:hi - lo<=50<;>simp [h3,h4,bC]
   simp [h3,bC]
  simp [h1,h2,bC]
 simp [h1,bC]
def Bj (p s e m w g t:Int):jT:=⟨p,p,s,s,e,e,m,m,w,w,g,g,t,t⟩
theorem aCB {p s e m w g t:Int} (st:uq p s e m w g t):aci p s e m w g t=some (p,p,s,s,e,e,m,m,w,w,g,g,t,t,0):=by
 unfold aci
 rw [p17,Option.bind_some,af8 st]
 refine (if_neg (by decide)).trans ?_
 rfl
theorem acy {p s e m w g t:Int} (st:uq p s e m w g t):BI (Bj p s e m w g t)/\IQ (Bj p s e m w g t) p s e m w g t:=by
 have h:IQ (Bj p s e m w g t) p s e m w g t:=by constructor<;>dsimp only [Bj]<;>omega
 refine ⟨⟨?_,p,s,e,m,w,g,t,st,h⟩,h⟩
 obtain ⟨sp,sa,sb,sm,sw,sg,stt,uU⟩:=st
 constructor<;>dsimp only [Bj]<;>omega
theorem wS2 {yN yO left h S:Int} (h1:0<=yN) (h2:yN<=yO) (h3:yO<=1000000) (h4:0<=left) (h5:left<=1000000) (h6:0<=h) (h7:h<=2000) (h8:0<=S) (h9:S<=20000000000) :
 IntKind.i64.wrap (left - (if IntKind.i64.wrap (yO - yN)<left then IntKind.i64.wrap (yO - yN) else left))=left - bg (yO - yN) left/\
 IntKind.i64.wrap (S+IntKind.i64.wrap ((if IntKind.i64.wrap (yO - yN)<left then IntKind.i64.wrap (yO - yN) else left)*h))=S+bg (yO - yN) left*h/\
 (0<=left - bg (yO - yN) left/\left - bg (yO - yN) left<=1000000)/\0<=bg (yO - yN) left*h/\bg (yO - yN) left*h<=2000000000:=by
 rw [wI (a:=yO - yN) (by omega) (by omega)]
 show IntKind.i64.wrap (left - bg (yO - yN) left)=left - bg (yO - yN) left/\IntKind.i64.wrap (S+IntKind.i64.wrap (bg (yO - yN) left*h))=S+bg (yO - yN) left*h/\_
 have hc:0<=bg (yO - yN) left/\bg (yO - yN) left<=left:=by unfold bg; omega
 have hm:=Qg hc.1 (show bg (yO - yN) left<=1000000 by omega) h6 h7
 rw [wI (a:=left - bg (yO - yN) left) (by omega) (by omega),wI (a:=bg (yO - yN) left*h) (by omega) (by omega),wI (a:=S+bg (yO - yN) left*h) (by omega) (by omega)]
 exact ⟨rfl,rfl,⟨by omega,by omega⟩,hm.1,by omega⟩
theorem it4 {σ ρ:Type} {B:σ->eY σ ρ} {s0 s1 s2 s3 s4:σ} {r:Option ρ} (h0:B s0= .next s1) (h1:B s1= .next s2) (h2:B s2= .next s3) (h3:B s3= .next s4) (h4:B s4= .out r):aK B 1000000000 s0=r:=by
 have key:∀ n:Nat,aK B (n+5) s0=r:=λn=>by simp only [aK,h0,h1,h2,h3,h4]
 exact key 999999995
section
variable {x:jT} {h0 h1 h2 h3:Int}
theorem aja (hx:BI x) (b0:0<=h0/\h0<=2000) (b1:0<=h1/\h1<=2000) (b2:0<=h2/\h2<=2000) (b3:0<=h3/\h3<=2000) (o0 o1 o2 o3:Int) :
 Jb x.pl x.ph x.al x.ah x.bl x.bh x.ml x.mh h0 h1 h2 h3 o0 o1 o2 o3=aK (Oc x.pl x.ph x.al x.ah x.bl x.bh x.ml x.mh h0 h1 h2 h3) 1000000000 (1000000 - x.pl - x.al - x.bl - x.ml,x.pl*h0+x.al*h1+x.bl*h2+x.ml*h3,o0,o1,o2,o3,0)/\
  (0<=x.pl*h0+x.al*h1+x.bl*h2+x.ml*h3/\x.pl*h0+x.al*h1+x.bl*h2+x.ml*h3<=8000000000)/\0<=1000000 - x.pl - x.al - x.bl - x.ml/\1000000 - x.pl - x.al - x.bl - x.ml<=1000000:=by
 obtain ⟨⟨rp,rs,re,rm,I5,rg,rt⟩,p,s,e,m,w,g,t,⟨sp,sa,sb,sm,sw,sg,stt,uU⟩,⟨ip,is,ie,im,iw,ig,it⟩⟩:=hx
 have m0:=Qg (x:=x.pl) rp.1 (show x.pl<=1000000 by omega) b0.1 b0.2
 have m1:=Qg (x:=x.al) rs.1 (show x.al<=1000000 by omega) b1.1 b1.2
 have m2:=Qg (x:=x.bl) re.1 (show x.bl<=1000000 by omega) b2.1 b2.2
 have m3:=Qg (x:=x.ml) rm.1 (show x.ml<=1000000 by omega) b3.1 b3.2
 refine ⟨?_,⟨by omega,by omega⟩,by omega,by omega⟩
 unfold Jb
 have e0:yT x.pl x.ph x.al x.ah x.bl x.bh x.ml x.mh h0 h1 h2 h3 o0 o1 o2 o3 (1000000,0,0)= .next (1000000 - x.pl,x.pl*h0,1):=by
  show eY.next (IntKind.i64.wrap (1000000 - x.pl),IntKind.i64.wrap (0+IntKind.i64.wrap (x.pl*h0)),IntKind.i64.wrap (0+1))=_
  rw [wI (a:=1000000 - x.pl) (by omega) (by omega),wI (a:=x.pl*h0) (by omega) (by omega),wI (a:=0+x.pl*h0) (by omega) (by omega),Int.zero_add,show IntKind.i64.wrap (0+1)=1 by decide]
 have e1:yT x.pl x.ph x.al x.ah x.bl x.bh x.ml x.mh h0 h1 h2 h3 o0 o1 o2 o3 (1000000 - x.pl,x.pl*h0,1)= .next (1000000 - x.pl - x.al,x.pl*h0+x.al*h1,2):=by
  show eY.next (IntKind.i64.wrap (1000000 - x.pl - x.al),IntKind.i64.wrap (x.pl*h0+IntKind.i64.wrap (x.al*h1)),IntKind.i64.wrap (1+1))=_
  rw [wI (a:=1000000 - x.pl - x.al) (by omega) (by omega),wI (a:=x.al*h1) (by omega) (by omega),wI (a:=x.pl*h0+x.al*h1) (by omega) (by omega),show IntKind.i64.wrap (1+1)=2 by decide]
 have e2:yT x.pl x.ph x.al x.ah x.bl x.bh x.ml x.mh h0 h1 h2 h3 o0 o1 o2 o3 (1000000 - x.pl - x.al,x.pl*h0+x.al*h1,2)= .next (1000000 - x.pl - x.al - x.bl,x.pl*h0+x.al*h1+x.bl*h2,3):=by
  show eY.next (IntKind.i64.wrap (1000000 - x.pl - x.al - x.bl),IntKind.i64.wrap (x.pl*h0+x.al*h1+IntKind.i64.wrap (x.bl*h2)),IntKind.i64.wrap (2+1))=_
  rw [wI (a:=1000000 - x.pl - x.al - x.bl) (by omega) (by omega),wI (a:=x.bl*h2) (by omega) (by omega),wI (a:=x.pl*h0+x.al*h1+x.bl*h2) (by omega) (by omega),show IntKind.i64.wrap (2+1)=3 by decide]
 have e3:yT x.pl x.ph x.al x.ah x.bl x.bh x.ml x.mh h0 h1 h2 h3 o0 o1 o2 o3 (1000000 - x.pl - x.al - x.bl,x.pl*h0+x.al*h1+x.bl*h2,3)= .next (1000000 - x.pl - x.al - x.bl - x.ml,x.pl*h0+x.al*h1+x.bl*h2+x.ml*h3,4):=by
  show eY.next (IntKind.i64.wrap (1000000 - x.pl - x.al - x.bl - x.ml),IntKind.i64.wrap (x.pl*h0+x.al*h1+x.bl*h2+IntKind.i64.wrap (x.ml*h3)),IntKind.i64.wrap (3+1))=_
  rw [wI (a:=1000000 - x.pl - x.al - x.bl - x.ml) (by omega) (by omega),wI (a:=x.ml*h3) (by omega) (by omega),wI (a:=x.pl*h0+x.al*h1+x.bl*h2+x.ml*h3) (by omega) (by omega),show IntKind.i64.wrap (3+1)=4 by decide]
 exact it4 e0 e1 e2 e3 rfl
theorem soft (hx:BI x) (b0:0<=h0/\h0<=2000) (b1:0<=h1/\h1<=2000) (b2:0<=h2/\h2<=2000) (b3:0<=h3/\h3<=2000) :
 Jb x.pl x.ph x.al x.ah x.bl x.bh x.ml x.mh h0 h1 h2 h3 0 1 2 3=some ((mZ (1000000 - x.pl - x.al - x.bl - x.ml) (x.ph - x.pl) (x.ah - x.al) (x.bh - x.bl) (x.mh - x.ml) h0 h1 h2 h3 (x.pl*h0+x.al*h1+x.bl*h2+x.ml*h3)).tdiv 1000000):=by
 obtain ⟨q,hS,hL⟩:=aja hx b0 b1 b2 b3 0 1 2 3
 rw [q]
 obtain ⟨⟨rp,rs,re,rm,I5,rg,rt⟩,p,s,e,m,w,g,t,-,⟨ip,is,ie,im,iw,ig,it⟩⟩:=hx
 unfold mZ
 generalize x.pl*h0+x.al*h1+x.bl*h2+x.ml*h3=S at hS
 generalize 1000000 - x.pl - x.al - x.bl - x.ml=L at hL
 have k0:=wS2 (yN:=x.pl) (yO:=x.ph) (left:=L) (h:=h0) (S:=S) rp.1 (by omega) rp.2 hL.1 hL.2 b0.1 b0.2 (by omega) (by omega)
 have k1:=wS2 (yN:=x.al) (yO:=x.ah) (left:=L - bg (x.ph - x.pl) L) (h:=h1) (S:=S+bg (x.ph - x.pl) L*h0) rs.1 (by omega) rs.2 (by omega) (by omega) b1.1 b1.2 (by omega) (by omega)
 have k2:=wS2 (yN:=x.bl) (yO:=x.bh) (left:=L - bg (x.ph - x.pl) L - bg (x.ah - x.al) (L - bg (x.ph - x.pl) L)) (h:=h2) (S:=S+bg (x.ph - x.pl) L*h0+bg (x.ah - x.al) (L - bg (x.ph - x.pl) L)*h1) re.1 (by omega) re.2 (by omega) (by omega) b2.1 b2.2 (by omega) (by omega)
 have k3:=wS2 (yN:=x.ml) (yO:=x.mh) (left:=L - bg (x.ph - x.pl) L - bg (x.ah - x.al) (L - bg (x.ph - x.pl) L) - bg (x.bh - x.bl) (L - bg (x.ph - x.pl) L - bg (x.ah - x.al) (L - bg (x.ph - x.pl) L))) (h:=h3) (S:=S+bg (x.ph - x.pl) L*h0+bg (x.ah - x.al) (L - bg (x.ph - x.pl) L)*h1+bg (x.bh - x.bl) (L - bg (x.ph - x.pl) L - bg (x.ah - x.al) (L - bg (x.ph - x.pl) L))*h2) rm.1 (by omega) rm.2 (by omega) (by omega) b3.1 b3.2 (by omega) (by omega)
 generalize bg (x.ph - x.pl) L=a0 at k0 k1 k2 k3
 generalize bg (x.ah - x.al) (L - a0)=a1 at k1 k2 k3
 generalize bg (x.bh - x.bl) (L - a0 - a1)=a2 at k2 k3
 generalize bg (x.mh - x.ml) (L - a0 - a1 - a2)=a3 at k3
 refine it4 (s1:=(L - a0,S+a0*h0,0,1,2,3,1)) (s2:=(L - a0 - a1,S+a0*h0+a1*h1,0,1,2,3,2)) (s3:=(L - a0 - a1 - a2,S+a0*h0+a1*h1+a2*h2,0,1,2,3,3)) (s4:=(L - a0 - a1 - a2 - a3,S+a0*h0+a1*h1+a2*h2+a3*h3,0,1,2,3,4)) ?_ ?_ ?_ ?_ ?_
 ·show eY.next (IntKind.i64.wrap (L - (if IntKind.i64.wrap (x.ph - x.pl)<L then IntKind.i64.wrap (x.ph - x.pl) else L)),IntKind.i64.wrap (S+IntKind.i64.wrap ((if IntKind.i64.wrap (x.ph - x.pl)<L then IntKind.i64.wrap (x.ph - x.pl) else L)*h0)),0,1,2,3,IntKind.i64.wrap (0+1))=_
  rw [k0.1,k0.2.1,show IntKind.i64.wrap (0+1)=1 by decide]
 ·show eY.next (IntKind.i64.wrap ((L - a0) - (if IntKind.i64.wrap (x.ah - x.al)<L - a0 then IntKind.i64.wrap (x.ah - x.al) else L - a0)),IntKind.i64.wrap (S+a0*h0+IntKind.i64.wrap ((if IntKind.i64.wrap (x.ah - x.al)<L - a0 then IntKind.i64.wrap (x.ah - x.al) else L - a0)*h1)),0,1,2,3,IntKind.i64.wrap (1+1))=_
  rw [k1.1,k1.2.1,show IntKind.i64.wrap (1+1)=2 by decide]
 ·show eY.next (IntKind.i64.wrap ((L - a0 - a1) - (if IntKind.i64.wrap (x.bh - x.bl)<L - a0 - a1 then IntKind.i64.wrap (x.bh - x.bl) else L - a0 - a1)),IntKind.i64.wrap (S+a0*h0+a1*h1+IntKind.i64.wrap ((if IntKind.i64.wrap (x.bh - x.bl)<L - a0 - a1 then IntKind.i64.wrap (x.bh - x.bl) else L - a0 - a1)*h2)),0,1,2,3,IntKind.i64.wrap (2+1))=_
  rw [k2.1,k2.2.1,show IntKind.i64.wrap (2+1)=3 by decide]
 ·show eY.next (IntKind.i64.wrap ((L - a0 - a1 - a2) - (if IntKind.i64.wrap (x.mh - x.ml)<L - a0 - a1 - a2 then IntKind.i64.wrap (x.mh - x.ml) else L - a0 - a1 - a2)),IntKind.i64.wrap (S+a0*h0+a1*h1+a2*h2+IntKind.i64.wrap ((if IntKind.i64.wrap (x.mh - x.ml)<L - a0 - a1 - a2 then IntKind.i64.wrap (x.mh - x.ml) else L - a0 - a1 - a2)*h3)),0,1,2,3,IntKind.i64.wrap (3+1))=_
  rw [k3.1,k3.2.1,show IntKind.i64.wrap (3+1)=4 by decide]
 show eY.out (some (IntKind.i64.wrap ((S+a0*h0+a1*h1+a2*h2+a3*h3).tdiv 1000000)))=_
 have:0<=(S+a0*h0+a1*h1+a2*h2+a3*h3).tdiv 1000000/\(S+a0*h0+a1*h1+a2*h2+a3*h3).tdiv 1000000<=10000000000:=by
  rw [Int.tdiv_eq_ediv_of_nonneg (by omega)]; omega
 rw [wI (by omega) (by omega)]
theorem ahh (hx:BI x) (b0:0<=h0/\h0<=2000) (b1:0<=h1/\h1<=2000) (b2:0<=h2/\h2<=2000) (b3:0<=h3/\h3<=2000) :
 Jb x.pl x.ph x.al x.ah x.bl x.bh x.ml x.mh h0 h1 h2 h3 3 2 1 0=some ((mZ (1000000 - x.pl - x.al - x.bl - x.ml) (x.mh - x.ml) (x.bh - x.bl) (x.ah - x.al) (x.ph - x.pl) h3 h2 h1 h0 (x.pl*h0+x.al*h1+x.bl*h2+x.ml*h3)).tdiv 1000000):=by
 obtain ⟨q,hS,hL⟩:=aja hx b0 b1 b2 b3 3 2 1 0
 rw [q]
 obtain ⟨⟨rp,rs,re,rm,I5,rg,rt⟩,p,s,e,m,w,g,t,-,⟨ip,is,ie,im,iw,ig,it⟩⟩:=hx
 unfold mZ
 generalize x.pl*h0+x.al*h1+x.bl*h2+x.ml*h3=S at hS
 generalize 1000000 - x.pl - x.al - x.bl - x.ml=L at hL
 have k0:=wS2 (yN:=x.ml) (yO:=x.mh) (left:=L) (h:=h3) (S:=S) rm.1 (by omega) rm.2 hL.1 hL.2 b3.1 b3.2 (by omega) (by omega)
 have k1:=wS2 (yN:=x.bl) (yO:=x.bh) (left:=L - bg (x.mh - x.ml) L) (h:=h2) (S:=S+bg (x.mh - x.ml) L*h3) re.1 (by omega) re.2 (by omega) (by omega) b2.1 b2.2 (by omega) (by omega)
 have k2:=wS2 (yN:=x.al) (yO:=x.ah) (left:=L - bg (x.mh - x.ml) L - bg (x.bh - x.bl) (L - bg (x.mh - x.ml) L)) (h:=h1) (S:=S+bg (x.mh - x.ml) L*h3+bg (x.bh - x.bl) (L - bg (x.mh - x.ml) L)*h2) rs.1 (by omega) rs.2 (by omega) (by omega) b1.1 b1.2 (by omega) (by omega)
 have k3:=wS2 (yN:=x.pl) (yO:=x.ph) (left:=L - bg (x.mh - x.ml) L - bg (x.bh - x.bl) (L - bg (x.mh - x.ml) L) - bg (x.ah - x.al) (L - bg (x.mh - x.ml) L - bg (x.bh - x.bl) (L - bg (x.mh - x.ml) L))) (h:=h0) (S:=S+bg (x.mh - x.ml) L*h3+bg (x.bh - x.bl) (L - bg (x.mh - x.ml) L)*h2+bg (x.ah - x.al) (L - bg (x.mh - x.ml) L - bg (x.bh - x.bl) (L - bg (x.mh - x.ml) L))*h1) rp.1 (by omega) rp.2 (by omega) (by omega) b0.1 b0.2 (by omega) (by omega)
 generalize bg (x.mh - x.ml) L=a0 at k0 k1 k2 k3
 generalize bg (x.bh - x.bl) (L - a0)=a1 at k1 k2 k3
 generalize bg (x.ah - x.al) (L - a0 - a1)=a2 at k2 k3
 generalize bg (x.ph - x.pl) (L - a0 - a1 - a2)=a3 at k3
 refine it4 (s1:=(L - a0,S+a0*h3,3,2,1,0,1)) (s2:=(L - a0 - a1,S+a0*h3+a1*h2,3,2,1,0,2)) (s3:=(L - a0 - a1 - a2,S+a0*h3+a1*h2+a2*h1,3,2,1,0,3)) (s4:=(L - a0 - a1 - a2 - a3,S+a0*h3+a1*h2+a2*h1+a3*h0,3,2,1,0,4)) ?_ ?_ ?_ ?_ ?_
 ·show eY.next (IntKind.i64.wrap (L - (if IntKind.i64.wrap (x.mh - x.ml)<L then IntKind.i64.wrap (x.mh - x.ml) else L)),IntKind.i64.wrap (S+IntKind.i64.wrap ((if IntKind.i64.wrap (x.mh - x.ml)<L then IntKind.i64.wrap (x.mh - x.ml) else L)*h3)),3,2,1,0,IntKind.i64.wrap (0+1))=_
  rw [k0.1,k0.2.1,show IntKind.i64.wrap (0+1)=1 by decide]
 ·show eY.next (IntKind.i64.wrap ((L - a0) - (if IntKind.i64.wrap (x.bh - x.bl)<L - a0 then IntKind.i64.wrap (x.bh - x.bl) else L - a0)),IntKind.i64.wrap (S+a0*h3+IntKind.i64.wrap ((if IntKind.i64.wrap (x.bh - x.bl)<L - a0 then IntKind.i64.wrap (x.bh - x.bl) else L - a0)*h2)),3,2,1,0,IntKind.i64.wrap (1+1))=_
  rw [k1.1,k1.2.1,show IntKind.i64.wrap (1+1)=2 by decide]
 ·show eY.next (IntKind.i64.wrap ((L - a0 - a1) - (if IntKind.i64.wrap (x.ah - x.al)<L - a0 - a1 then IntKind.i64.wrap (x.ah - x.al) else L - a0 - a1)),IntKind.i64.wrap (S+a0*h3+a1*h2+IntKind.i64.wrap ((if IntKind.i64.wrap (x.ah - x.al)<L - a0 - a1 then IntKind.i64.wrap (x.ah - x.al) else L - a0 - a1)*h1)),3,2,1,0,IntKind.i64.wrap (2+1))=_
  rw [k2.1,k2.2.1,show IntKind.i64.wrap (2+1)=3 by decide]
 ·show eY.next (IntKind.i64.wrap ((L - a0 - a1 - a2) - (if IntKind.i64.wrap (x.ph - x.pl)<L - a0 - a1 - a2 then IntKind.i64.wrap (x.ph - x.pl) else L - a0 - a1 - a2)),IntKind.i64.wrap (S+a0*h3+a1*h2+a2*h1+IntKind.i64.wrap ((if IntKind.i64.wrap (x.ph - x.pl)<L - a0 - a1 - a2 then IntKind.i64.wrap (x.ph - x.pl) else L - a0 - a1 - a2)*h0)),3,2,1,0,IntKind.i64.wrap (3+1))=_
  rw [k3.1,k3.2.1,show IntKind.i64.wrap (3+1)=4 by decide]
 show eY.out (some (IntKind.i64.wrap ((S+a0*h3+a1*h2+a2*h1+a3*h0).tdiv 1000000)))=_
 have:0<=(S+a0*h3+a1*h2+a2*h1+a3*h0).tdiv 1000000/\(S+a0*h3+a1*h2+a2*h1+a3*h0).tdiv 1000000<=10000000000:=by
  rw [Int.tdiv_eq_ediv_of_nonneg (by omega)]; omega
 rw [wI (by omega) (by omega)]
end
def uj (a b c d:Int) (x:jT):Int:=(mZ (1000000 - x.pl - x.al - x.bl - x.ml) (x.ph - x.pl) (x.ah - x.al) (x.bh - x.bl) (x.mh - x.ml) a b c (dU c d x.th) (x.pl*a+x.al*b+x.bl*c+x.ml*dU c d x.th)).tdiv 1000000
def um (a b c d:Int) (x:jT):Int:=(mZ (1000000 - x.pl - x.al - x.bl - x.ml) (x.mh - x.ml) (x.bh - x.bl) (x.ah - x.al) (x.ph - x.pl) (dU c d x.tl) c b a (x.pl*a+x.al*b+x.bl*c+x.ml*dU c d x.tl)).tdiv 1000000
section
variable {H:aT} {C:aG} {Q:aJ} {T:aA} {a b c d:Int}
theorem p86 (ok:DR H C Q T a b c d) {t:Int} (h1:0<=t) (h2:t<=1000000):Zl H C Q T a b c d t=some (a,b,c,dU c d t):=by
 have q1:=ok.ha; have q2:=ok.hab; have q3:=ok.hbc; have q4:=ok.hcd; have q5:=ok.hd
 unfold Zl
 rw [wI (a:=d - t) (by omega) (by omega)]; rfl
theorem au6 (ok:DR H C Q T a b c d) {x:jT} (hx:BI x):Zf H C Q T a b c d x.pl x.ph x.al x.ah x.bl x.bh x.ml x.mh x.wl x.wh x.gl x.gh x.tl x.th=some (uj a b c d x,um a b c d x):=by
 have q1:=ok.ha; have q2:=ok.hab; have q3:=ok.hbc; have q4:=ok.hcd; have q5:=ok.hd
 have hx2:=hx
 obtain ⟨⟨rp,rs,re,rm,I5,rg,rt⟩,p,s,e,m,w,g,t,-,⟨ip,is,ie,im,iw,ig,it⟩⟩:=hx2
 have hM:=Ac ok (t:=x.th) (by omega)
 have hN:=Ac ok (t:=x.tl) (by omega)
 unfold Zf Y9
 rw [Option.bind_some,p86 ok (t:=x.th) (by omega) rt.2,Option.bind_some]
 show (Jb x.pl x.ph x.al x.ah x.bl x.bh x.ml x.mh a b c (dU c d x.th) 0 1 2 3).bind _=_
 rw [soft hx ⟨by omega,by omega⟩ ⟨by omega,by omega⟩ ⟨by omega,by omega⟩ ⟨by omega,by omega⟩,Option.bind_some,p86 ok (t:=x.tl) rt.1 (by omega),Option.bind_some]
 show (Jb x.pl x.ph x.al x.ah x.bl x.bh x.ml x.mh a b c (dU c d x.tl) 3 2 1 0).bind _=_
 rw [ahh hx ⟨by omega,by omega⟩ ⟨by omega,by omega⟩ ⟨by omega,by omega⟩ ⟨by omega,by omega⟩,Option.bind_some]
 rfl
end
section
variable {H:aT} {C:aG} {Q:aJ} {T:aA} {a b c d:Int}
def oC (H:aT) (C:aG) (Q:aJ) (T:aA):aA->jT->jT
 | [],x=>x
 | r::l,x=>oC H C Q T l (qU H C Q T r.1 r.2 x)
theorem BI.run (ok:zo H C Q T):∀ (l:aA) {x:jT},BI x->BI (oC H C Q T l x)
 | [],_,h=>h
 | r::l,_,h=>BI.run ok l (h.range ok r.1 r.2)
theorem agh (ok:zo H C Q T) {B:Int×B14->eY (Int×B14) B14} (l:aA) (hl:l.length<1000000000) (hr:∀ r∈l,mX r.1 r.2=0)
 (step:∀ (i:Nat) (x:jT),i<l.length->BI x->B ((i:Int),tB x)= .next ((i:Int)+1,tB (qU H C Q T (l.getD i default).1 (l.getD i default).2 x))) (stop:∀ x,B ((l.length:Int),tB x)= .out (some (tB x))) {x:jT} (h:BI x) :
 aK B 1000000000 (0,tB x)=some (tB (oC H C Q T l x)):=by
 have key:∀ (k i fuel:Nat) (x:jT),i+k=l.length->k<fuel->BI x->aK B fuel ((i:Int),tB x)=some (tB (oC H C Q T (l.drop i) x)):=by
  intro k
  induction k with
  | zero=>
   intro i fuel x hi hf hx
   obtain ⟨n,rfl⟩:∃ n,fuel=n+1:=⟨fuel - 1,by omega⟩
   obtain rfl:i=l.length:=by omega
   simp only [aK,stop,List.drop_length,oC]
  | succ k ih=>
   intro i fuel x hi hf hx
   obtain ⟨n,rfl⟩:∃ n,fuel=n+1:=⟨fuel - 1,by omega⟩
   have hlt:i<l.length:=by omega
   have hd:l.drop i=l.getD i default::l.drop (i+1):=by
    rw [List.drop_eq_getElem_cons hlt]; simp [List.getD_eq_getElem?_getD,hlt]
   simp only [aK,step i x hlt hx]
   rw [hd]
   exact ih (i+1) n _ (by omega) (by omega) (hx.range ok _ _)
 exact key l.length 0 1000000000 x (by omega) hl h
theorem z62 (ok:zo H C Q T) {x:jT} (h:BI x) {l:aA} (hl:l.length<1000000000) (hr:∀ r∈l,mX r.1 r.2=0) :
 abZ H C Q T a b c d x.pl x.ph x.al x.ah x.bl x.bh x.ml x.mh x.wl x.wh x.gl x.gh x.tl x.th l=some (tB (oC H C Q T l x)):=by
 unfold abZ
 refine agh ok l hl hr (λi x hi hx=> ?_) (λx=>if_neg (by simp)) h
 have hr2:=abC (hr _ (lX hi))
 refine (if_pos (kK hi)).trans ((if_pos (iK hi)).trans ?_)
 show aW (Y8 H C Q T a b c d x.pl x.ph x.al x.ah x.bl x.bh x.ml x.mh x.wl x.wh x.gl x.gh x.tl x.th (l.getD i default).1 (l.getD i default).2) (λv1=>_)=_
 rw [au7 ok hx hr2.1 hr2.2.1 hr2.2.2.1]
 show eY.next (IntKind.i64.wrap ((i:Int)+1),tB (qU H C Q T (l.getD i default).1 (l.getD i default).2 x))=_
 rw [wS i (by omega)]
end
section
variable {x:jT} {h0 h1 h2 h3:Int}
end
section
variable {H:aT} {C:aG} {Q:aJ} {T:aA} {a b c d:Int}
end
theorem axf {b:jT} (h:vY b=0):BI b:=by
 unfold vY at h
 simp only [bC] at h
 have key:∀ {x y:Int},(if x=0 then y else x)=0->x=0/\y=0:=fun {x y} h=>by
  by_cases hx:x=0
  ·rw [if_pos hx] at h; exact ⟨hx,h⟩
  rw [if_neg hx] at h; exact absurd h hx
 obtain ⟨h1,h⟩:=key h
 obtain ⟨h2,h⟩:=key h
 obtain ⟨h3,h⟩:=key h
 obtain ⟨h4,h⟩:=key h
 obtain ⟨h5,h⟩:=key h
 obtain ⟨h6,h⟩:=key h
 obtain ⟨h7,h⟩:=key h
 obtain ⟨h8,-⟩:=key h
 have h1:=vH h1; have h2:=vH h2; have h3:=vH h3; have h4:=vH h4; have h5:=vH h5; have h6:=vH h6; have h7:=vH h7
 have h8:b.pl+b.al+b.bl+b.ml<=1000000/\1000000<=b.ph+b.ah+b.bh+b.mh:=by
  by_cases h9:b.pl+b.al+b.bl+b.ml<=1000000/\1000000<=b.ph+b.ah+b.bh+b.mh
  ·exact h9
  rw [if_neg h9] at h8; exact absurd h8 (by decide)
 obtain ⟨L,hL⟩:∃ L,L=1000000 - b.pl - b.al - b.bl - b.ml:=⟨_,rfl⟩
 obtain ⟨a0,q0⟩:∃ a0,a0=bg (b.ph - b.pl) L:=⟨_,rfl⟩
 obtain ⟨a1,q1⟩:∃ a1,a1=bg (b.ah - b.al) (L - a0):=⟨_,rfl⟩
 obtain ⟨a2,q2⟩:∃ a2,a2=bg (b.bh - b.bl) (L - a0 - a1):=⟨_,rfl⟩
 unfold bg at q0 q1 q2
 refine ⟨⟨⟨by omega,by omega⟩,⟨by omega,by omega⟩,⟨by omega,by omega⟩,⟨by omega,by omega⟩,⟨by omega,by omega⟩,⟨by omega,by omega⟩,⟨by omega,by omega⟩⟩,b.pl+a0,b.al+a1,b.bl+a2,b.ml+(L - a0 - a1 - a2),b.wl,b.gl,b.tl,⟨⟨by omega,by omega⟩,⟨by omega,by omega⟩,⟨by omega,by omega⟩,⟨by omega,by omega⟩,⟨by omega,by omega⟩,⟨by omega,by omega⟩,⟨by omega,by omega⟩,by omega⟩,⟨⟨by omega,by omega⟩,⟨by omega,by omega⟩,⟨by omega,by omega⟩,⟨by omega,by omega⟩,⟨by omega,by omega⟩,⟨by omega,by omega⟩,⟨by omega,by omega⟩⟩⟩
theorem z61 (l:aA) (hl:l.length<1000000000):ab1 l=some (mG l):=by
 unfold ab1 mG
 by_cases h:200<l.length
 ·rw [if_pos h]; exact if_pos (by simp; omega)
 rw [if_neg h]
 refine (if_neg (by simp; omega)).trans ?_
 have h:=eU (τ:=Unit) l (Oh l) (λi _=>i) (λ_ _ x=>if mX x.1 x.2=0 then .next () else .out (some (mX x.1 x.2))) (λ_=>some 0) hl
  (λi t hi=>by
   refine (if_pos (kK hi)).trans ((if_pos (iK hi)).trans ?_)
   rw [au8,wS i (by omega),Int.toNat_natCast]
   show (if (mX (l.getD i default).1 (l.getD i default).2 != 0)=true then _ else _)=_
   generalize mX (l.getD i default).1 (l.getD i default).2=z
   by_cases hz:z=0
   ·simp only [hz,if_true,uN]; rfl
   simp only [if_neg hz,uN]; exact if_pos (by simpa using hz))
  (λt=>if_neg (by simp)) ()
 rw [h]
 have key:∀ (r:aA) (i:Int),dV (λ_ _ x=>if mX x.1 x.2=0 then eY.next () else .out (some (mX x.1 x.2))) (λ_:Unit=>some 0) i r ()=some (bC (r.map λx=>mX x.1 x.2)):=by
  intro r
  induction r with
  | nil=>intro i; rfl
  | cons x r ih=>
   intro i
   by_cases hx:mX x.1 x.2=0
   ·simp only [dV,hx,if_true,List.map_cons,bC]; exact ih _
   simp only [dV,if_neg hx,List.map_cons,bC]
 exact key l 0
theorem ZH {α β ρ:Type} [Inhabited α] (l:List α) (hl:l.length<1000000000) (B:List β×Int->eY (List β×Int) ρ) (f:α->β) (fin:List β->Option ρ)
 (step:∀ (i:Nat) (acc:List β),i<l.length->acc.length=i->B (acc,(i:Int))= .next (acc++[f (l.getD i default)],(i:Int)+1)) (stop:∀ acc:List β,acc.length=l.length->B (acc,(l.length:Int))= .out (fin acc)) :
 aK B 1000000000 ([],0)=fin (l.map f):=by
 have key:∀ (k i fuel:Nat) (acc:List β),i+k=l.length->k<fuel->acc=(l.take i).map f->aK B fuel (acc,(i:Int))=fin (l.map f):=by
  intro k
  induction k with
  | zero=>
   intro i fuel acc hi hf ha
   obtain ⟨m,rfl⟩:∃ m,fuel=m+1:=⟨fuel - 1,by omega⟩
   obtain rfl:i=l.length:=by omega
   have hacc:acc=l.map f:=by rw [ha,List.take_length]
   simp only [aK,stop acc (by rw [hacc,List.length_map])]
   rw [hacc]
  | succ k ih=>
   intro i fuel acc hi hf ha
   obtain ⟨m,rfl⟩:∃ m,fuel=m+1:=⟨fuel - 1,by omega⟩
   have hlt:i<l.length:=by omega
   simp only [aK,step i acc hlt (by rw [ha,List.length_map,List.length_take]; omega)]
   refine ih (i+1) m _ (by omega) (by omega) ?_
   rw [ha,List.take_add_one,List.map_append]
   congr 1
   simp [List.getD_eq_getElem?_getD,hlt]
 exact key l.length 0 1000000000 [] (by omega) hl (by simp)
def Ik (a b c d:Int) (x:jT):Int×Int:=(uj a b c d x,um a b c d x)
section
variable {H:aT} {C:aG} {Q:aJ} {T:aA} {a b c d:Int}
theorem Ii {α σ ρ:Type} (v:α) (f:α->eY σ ρ):aW (some v) f=f v:=rfl
theorem azw (ok:DR H C Q T a b c d) {x:jT} (hx:BI x):Zf H C Q T a b c d x.pl x.ph x.al x.ah x.bl x.bh x.ml x.mh x.wl x.wh x.gl x.gh x.tl x.th=some (Ik a b c d x):=au6 ok hx
end
def vJ (l:au):Int:=if 12<l.length then 8 else bC (l.map mG)
section
variable {H:aT} {C:aG} {Q:aJ} {T:aA} {a b c d:Int}
theorem QU (E:Int->Option (aA×Int)):∀ (r:au) (i t:Int),dV (λ_ t x=>eY.next (if t=0 then mG x else t)) E i r t=E (bC (t::r.map mG))
 | [],i,t=>by simp only [dV,List.map_nil,bC]; by_cases h:t=0<;>simp [h]
 | x::r,i,t=>by
  show dV _ E (i+1) r (if t=0 then mG x else t)=_
  rw [QU E r]
  simp only [List.map_cons,bC]
  by_cases h:t=0<;>simp [h]
theorem z20 (hf:H.length<=10/\C.length<=10/\Q.length<=10/\T.length<=10) {v:Int×Int} (hv:FV H C Q T a b c d=some v) (x:jT) (l:au) (hl:l.length<=14) (hc:∀ y∈l,y.length<=202) :
 Zj H C Q T a b c d x.pl x.ph x.al x.ah x.bl x.bh x.ml x.mh x.wl x.wh x.gl x.gh x.tl x.th l=some (if bC [v.2,vY x,vJ l]=0 then (l.map λy=>Ik a b c d (oC H C Q T y x),0) else ([],bC [v.2,vY x,vJ l])):=by
 unfold Zj
 rw [p73 hf hv,Option.bind_some,au9,Option.bind_some,p68,Option.bind_some,p67 _ (by simp),Option.bind_some]
 have h:=eU (τ:=Int) l (Oj H C Q T a b c d x.pl x.ph x.al x.ah x.bl x.bh x.ml x.mh x.wl x.wh x.gl x.gh x.tl x.th l) (λi t=>(t,i)) (λ_ t y=> .next (if t=0 then mG y else t))
  (λt=>if (t != 0)=true then some ([],t) else aK (IB H C Q T a b c d x.pl x.ph x.al x.ah x.bl x.bh x.ml x.mh x.wl x.wh x.gl x.gh x.tl x.th l) 1000000000 ([],0)) (by omega)
  (λi t hi=>by
   refine (if_pos (kK hi)).trans ((if_pos (iK hi)).trans ?_)
   have h1:=hc _ (lX hi)
   rw [Int.toNat_natCast,z61 _ (by omega)]
   show aW (oL [t,mG (l.getD i default)]) (λv6=>_)=_
   rw [p67 _ (by simp),G8,wS i (by omega)]; rfl) (λt=>if_neg (by simp)) (bC [v.2,vY x,bG (decide ((l.length:Int)<=12)) 8])
 rw [h,QU]
 have e1:bC (bC [v.2,vY x,bG (decide ((l.length:Int)<=12)) 8]::l.map mG)=bC [v.2,vY x,vJ l]:=by
  unfold vJ bG
  by_cases h12:12<l.length
  ·rw [if_pos h12,show (decide ((l.length:Int)<=12))=false from decide_eq_false (by omega)]
   simp only [bC]
   by_cases g1:v.2=0<;>by_cases g2:vY x=0<;>simp [g1,g2]
  rw [if_neg h12,show (decide ((l.length:Int)<=12))=true from decide_eq_true (by omega)]
  simp only [bC]
  by_cases g1:v.2=0<;>by_cases g2:vY x=0<;>simp [g1,g2]
 rw [e1]
 by_cases hE:bC [v.2,vY x,vJ l]=0
 ·rw [if_pos hE]
  refine (if_neg (by rw [hE]; decide)).trans ?_
  have hE2:=hE
  have g0:v.2=0:=by
   by_cases g:v.2=0
   ·exact g
   simp only [bC,if_neg g] at hE2; exact absurd hE2 g
  have g1:vY x=0:=by
   by_cases g:vY x=0
   ·exact g
   simp only [bC,g0,if_true,if_neg g] at hE2; exact absurd hE2 g
  have g2:vJ l=0:=by
   by_cases g:vJ l=0
   ·exact g
   simp only [bC,g0,g1,if_true,if_neg g] at hE2; exact absurd hE2 g
  have hr:∀ y∈l,mG y=0:=by
   unfold vJ at g2
   split at g2
   ·exact absurd g2 (by decide)
   exact λy hy=>fz g2 _ (List.mem_map.2 ⟨y,hy,rfl⟩)
  have ok:=abr hv g0
  have hx:=axf g1
  refine (ZH l (by omega) (IB H C Q T a b c d x.pl x.ph x.al x.ah x.bl x.bh x.ml x.mh x.wl x.wh x.gl x.gh x.tl x.th l) (λy=>Ik a b c d (oC H C Q T y x)) (λacc=>some (acc,0)) (λi acc hi ha=> ?_) (λacc ha=>if_neg (by simp)))
  refine (if_pos (kK hi)).trans ((if_pos (iK hi)).trans ?_)
  rw [Int.toNat_natCast]
  have h1:=hc _ (lX hi)
  have h2:=hr _ (lX hi)
  rw [z62 ok.tozo hx (by omega) (YX h2).2]
  have hB:=hx.run ok.tozo (l.getD i default)
  show _=eY.next (acc++[Ik a b c d (oC H C Q T (l.getD i default) x)],(i:Int)+1)
  generalize oC H C Q T (l.getD i default) x=X at hB ⊢
  rw [Ii]
  dsimp only [tB]
  rw [azw ok hB,Ii]
  generalize Ik a b c d X=P
  rw [if_pos ⟨by omega,by omega⟩,wS i (by omega)]
 rw [if_neg hE]
 exact if_pos (by simpa using hE)
end
variable {x y:jT} {f:Int->jT}
structure kR (x y:jT):Prop where
 p:y.pl<=x.pl/\x.ph<=y.ph
 s:y.al<=x.al/\x.ah<=y.ah
 e:y.bl<=x.bl/\x.bh<=y.bh
 m:y.ml<=x.ml/\x.mh<=y.mh
 w:y.wl<=x.wl/\x.wh<=y.wh
 g:y.gl<=x.gl/\x.gh<=y.gh
 t:y.tl<=x.tl/\x.th<=y.th
theorem kR.refl (x:jT):kR x x:=by constructor<;>omega
theorem kR.trans {z:jT} (h:kR x y) (k:kR y z):kR x z:=by
 obtain ⟨a1,a2,a3,a4,a5,a6,a7⟩:=h
 obtain ⟨b1,b2,b3,b4,b5,b6,b7⟩:=k
 constructor<;>omega
theorem BI.ends (h:BI x):x.pl<=x.ph/\x.al<=x.ah/\x.bl<=x.bh/\x.ml<=x.mh/\x.wl<=x.wh/\x.gl<=x.gh/\x.tl<=x.th:=by
 obtain ⟨r,p,s,e,m,w,g,t,st,⟨ip,is,ie,im,iw,ig,it⟩⟩:=h
 refine ⟨?_,?_,?_,?_,?_,?_,?_⟩<;>omega
theorem af5 (rx:BI x) (ry:BI y) (h:kR x y) {lo hi gr:Int} (h1:0<=lo) (h2:lo<=hi) (h4:hi<=1000000) (h5:0<=gr) (h6:gr<=1000000):kR (Qz lo hi gr x) (Qz lo hi gr y):=by
 obtain ⟨a1,a2,a3,a4,a5,a6,a7⟩:=h
 obtain ⟨rp,rs,re,rm,I5,rg,rt⟩:=rx.1
 obtain ⟨qp,qs,qe,qm,qw,qg,qt⟩:=ry.1
 have hE:jA (ji (y.pl+y.bl+y.ml) - hi)<=jA (ji (x.pl+x.bl+x.ml) - hi)/\jA (ji (x.ph+x.bh+x.mh) - lo)<=jA (ji (y.ph+y.bh+y.mh) - lo):=by
  unfold jA ji; omega
 unfold Qz
 generalize jA (ji (x.pl+x.bl+x.ml) - hi)=PL at hE
 generalize jA (ji (x.ph+x.bh+x.mh) - lo)=PH at hE
 generalize jA (ji (y.pl+y.bl+y.ml) - hi)=QL at hE
 generalize jA (ji (y.ph+y.bh+y.mh) - lo)=QH at hE
 constructor<;>(try (dsimp only; omega))
 dsimp only [grV]; omega
theorem abe (rx:BI x) (ry:BI y) (h:kR x y) {wlo whi Dw Ei:Int} (h1:0<=wlo) (h2:wlo<=whi) (h4:whi<=1000000) (g1:0<=Dw) (g2:Dw<=Ei) (g4:Ei<=1000000):kR (sG wlo whi Dw Ei x) (sG wlo whi Dw Ei y):=by
 obtain ⟨a1,a2,a3,a4,a5,a6,a7⟩:=h
 obtain ⟨rp,rs,re,rm,I5,rg,rt⟩:=rx.1
 obtain ⟨qp,qs,qe,qm,qw,qg,qt⟩:=ry.1
 have hW:ji (y.wl+wlo)<=ji (x.wl+wlo)/\ji (x.wh+whi)<=ji (y.wh+whi)/\ji (x.wl+wlo)<=1000000/\ji (y.wh+whi)<=1000000:=by unfold ji; omega
 unfold sG
 generalize ji (x.wl+wlo)=XL at hW
 generalize ji (x.wh+whi)=XH at hW
 generalize ji (y.wl+wlo)=YL at hW
 generalize ji (y.wh+whi)=YH at hW
 constructor<;>dsimp only [jA,rQ,ji]<;>omega
theorem abf (rx:BI x) (ry:BI y) (h:kR x y) {yg zx:Int} (h1:0<=yg) (h2:yg<=zx) (h4:zx<=1000000):kR (xR yg zx x) (xR yg zx y):=by
 obtain ⟨a1,a2,a3,a4,a5,a6,a7⟩:=h
 obtain ⟨e1,e2,e3,e4,e5,e6,e7⟩:=rx.ends
 obtain ⟨rp,rs,re,rm,I5,rg,rt⟩:=rx.1
 obtain ⟨qp,qs,qe,qm,qw,qg,qt⟩:=ry.1
 have m1:=Na (a:=y.al) (m:=y.ml) (s:=yg) (a':=x.al) (m':=x.ml) (s':=yg) (by omega) (by omega) (by omega) (by omega) h1 (Int.le_refl _)
 have m2:=Na (a:=x.ah) (m:=x.mh) (s:=zx) (a':=y.ah) (m':=y.mh) (s':=zx) (by omega) (by omega) (by omega) (by omega) (by omega) (Int.le_refl _)
 have l1:=left_le (a:=y.al) (m:=y.ml) (s:=zx) (a':=x.al) (m':=x.ml) (s':=zx) (by omega) (by omega) (by omega) (by omega) (by omega) (Int.le_refl _) h4
 have l2:=left_le (a:=x.ah) (m:=x.mh) (s:=yg) (a':=y.ah) (m':=y.mh) (s':=yg) (by omega) (by omega) (by omega) (by omega) h1 (Int.le_refl _) (by omega)
 unfold xR
 constructor<;>dsimp only [ji]<;>omega
theorem af2 (h:kR x y) (tk:Option (Int×Int)):kR (zA tk x) (zA tk y):=by
 obtain ⟨a1,a2,a3,a4,a5,a6,a7⟩:=h
 cases tk with
 | none=>exact ⟨a1,a2,a3,a4,a5,a6,a7⟩
 | some z=>unfold zA; constructor<;>dsimp only [ji]<;>omega
section
variable {H:aT} {C:aG} {Q:aJ} {T:aA} {a b c d:Int}
theorem af6 (ok:zo H C Q T) (rx:BI x) (ry:BI y) (h:kR x y) (k:Int):kR (mD H C Q T k x) (mD H C Q T k y):=by
 unfold mD
 cases hh:qW H k with
 | some z=>
  have hz:=ok.kh z (lU hh).1
  exact af5 rx ry h hz.1.1 hz.1.2.1 hz.1.2.2 hz.2.1 hz.2.2
 | none=>
  refine af2 ?_ _
  have h1:kR (aez (oq C k) x) (aez (oq C k) y)/\BI (aez (oq C k) x)/\BI (aez (oq C k) y):=by
   cases hc:oq C k with
   | none=>exact ⟨h,rx,ry⟩
   | some z=>
    have hz:=ok.kc z (List.mem_of_find?_eq_some hc)
    exact ⟨abe rx ry h hz.1.1 hz.1.2.1 hz.1.2.2 hz.2.1 hz.2.2.1 hz.2.2.2,rx.ame hz.1.1 hz.1.2.1 hz.1.2.2 hz.2.1 hz.2.2.1 hz.2.2.2,ry.ame hz.1.1 hz.1.2.1 hz.1.2.2 hz.2.1 hz.2.2.1 hz.2.2.2⟩
  cases hq:eF Q k with
  | none=>exact h1.1
  | some z=>
   have hz:=ok.kq z (List.mem_of_find?_eq_some hq)
   exact abf h1.2.1 h1.2.2 h1.1 hz.1 hz.2.1 hz.2.2
theorem ahc {z:jT} (h:kR x z) (k:kR y z):kR (rW x y) z:=by
 obtain ⟨a1,a2,a3,a4,a5,a6,a7⟩:=h
 obtain ⟨b1,b2,b3,b4,b5,b6,b7⟩:=k
 constructor<;>dsimp only [rW,rQ,D8]<;>omega
theorem ZI (x y:jT):kR x (rW x y):=by constructor<;>dsimp only [rW,rQ,D8]<;>omega
theorem UG (x y:jT):kR y (rW x y):=by constructor<;>dsimp only [rW,rQ,D8]<;>omega
theorem abw {z:jT}:∀ (n:Nat) (i:Int) (out:jT),kR out z->(∀ k,i<=k->k<i+n->kR (f k) z)->kR (Me f n i out) z
 | 0,_,_,h,_=>h
 | n+1,i,out,h,hk=>abw n (i+1) _ (ahc h (hk i (by omega) (by omega))) λk h1 h2=>hk k (by omega) (by omega)
theorem Md:∀ (n:Nat) (i:Int) (out:jT),kR out (Me f n i out)
 | 0,_,out=> .refl out
 | n+1,i,out=>(ZI out (f i)).trans (Md n (i+1) _)
theorem abx:∀ (n:Nat) (i:Int) (out:jT) (k:Int),i<=k->k<i+n->kR (f k) (Me f n i out)
 | 0,_,_,_,h1,h2=>absurd h2 (by omega)
 | n+1,i,out,k,h1,h2=>by
  by_cases e:k=i
  ·subst e; exact (UG out (f k)).trans (Md n (k+1) _)
  exact abx n (i+1) _ k (by omega) (by omega)
theorem YJ (ok:zo H C Q T) (rx:BI x) (ry:BI y) (h:kR x y) {lo hi lo' hi':Int} (h0:lo<=hi) (h1:lo'<=lo) (h2:hi<=hi'):kR (qU H C Q T lo hi x) (qU H C Q T lo' hi' y):=by
 have key:∀ k,lo<=k->k<=hi->kR (mD H C Q T k x) (qU H C Q T lo' hi' y):=λk k1 k2=>by
  refine (af6 ok rx ry h k).trans ?_
  unfold qU
  by_cases e:k=lo'
  ·subst e; exact Md _ _ _
  exact abx (f:=λk=>mD H C Q T k y) _ _ _ k (by omega) (by omega)
 unfold qU
 exact abw _ _ _ (key lo (by omega) h0) λk k1 k2=>key k (by omega) (by omega)
end
variable {x:jT}
theorem ahp {L d0 d1 d2 d3 h0 h1 h2 h3 x0 x1 x2 x3:Int} (e0:0<=x0/\x0<=d0) (e1:0<=x1/\x1<=d1) (e2:0<=x2/\x2<=d2) (e3:0<=x3/\x3<=d3) (hL:x0+x1+x2+x3=L) (f1:h0<=h1) (f2:h1<=h2) (f3:h2<=h3) :
 mZ L d0 d1 d2 d3 h0 h1 h2 h3 0<=x0*h0+x1*h1+x2*h2+x3*h3:=by
 unfold mZ
 have g:∃ a0 a1 a2 a3:Int,bg d0 L=a0/\bg d1 (L - a0)=a1/\bg d2 (L - a0 - a1)=a2/\bg d3 (L - a0 - a1 - a2)=a3:=⟨_,_,_,_,rfl,rfl,rfl,rfl⟩
 obtain ⟨a0,a1,a2,a3,q0,q1,q2,q3⟩:=g
 simp only [q0,q1,q2,q3]
 unfold bg at q0 q1 q2 q3
 have k0:x0<=a0:=by omega
 have k1:x0+x1<=a0+a1:=by omega
 have k2:x0+x1+x2<=a0+a1+a2:=by omega
 have k3:a0+a1+a2+a3=L:=by omega
 have m0:=Int.mul_nonneg (show 0<=h1 - h0 by omega) (show 0<=a0 - x0 by omega)
 have m1:=Int.mul_nonneg (show 0<=h2 - h1 by omega) (show 0<=a0+a1 - (x0+x1) by omega)
 have m2:=Int.mul_nonneg (show 0<=h3 - h2 by omega) (show 0<=a0+a1+a2 - (x0+x1+x2) by omega)
 have ea:a3=L - a0 - a1 - a2:=by omega
 have ex:x3=L - x0 - x1 - x2:=by omega
 subst ea ex
 grind
theorem ahq {L d0 d1 d2 d3 h0 h1 h2 h3 x0 x1 x2 x3:Int} (e0:0<=x0/\x0<=d0) (e1:0<=x1/\x1<=d1) (e2:0<=x2/\x2<=d2) (e3:0<=x3/\x3<=d3) (hL:x0+x1+x2+x3=L) (f1:h1<=h0) (f2:h2<=h1) (f3:h3<=h2) :
 x0*h0+x1*h1+x2*h2+x3*h3<=mZ L d0 d1 d2 d3 h0 h1 h2 h3 0:=by
 unfold mZ
 have g:∃ a0 a1 a2 a3:Int,bg d0 L=a0/\bg d1 (L - a0)=a1/\bg d2 (L - a0 - a1)=a2/\bg d3 (L - a0 - a1 - a2)=a3:=⟨_,_,_,_,rfl,rfl,rfl,rfl⟩
 obtain ⟨a0,a1,a2,a3,q0,q1,q2,q3⟩:=g
 simp only [q0,q1,q2,q3]
 unfold bg at q0 q1 q2 q3
 have k0:x0<=a0:=by omega
 have k1:x0+x1<=a0+a1:=by omega
 have k2:x0+x1+x2<=a0+a1+a2:=by omega
 have k3:a0+a1+a2+a3=L:=by omega
 have m0:=Int.mul_nonneg (show 0<=h0 - h1 by omega) (show 0<=a0 - x0 by omega)
 have m1:=Int.mul_nonneg (show 0<=h1 - h2 by omega) (show 0<=a0+a1 - (x0+x1) by omega)
 have m2:=Int.mul_nonneg (show 0<=h2 - h3 by omega) (show 0<=a0+a1+a2 - (x0+x1+x2) by omega)
 have ea:a3=L - a0 - a1 - a2:=by omega
 have ex:x3=L - x0 - x1 - x2:=by omega
 subst ea ex
 grind
def hdV (a b c d p s e m t:Int):Int:=(p*a+s*b+e*c+m*dU c d t).tdiv 1000000
section
variable {H:aT} {C:aG} {Q:aJ} {T:aA} {a b c d:Int}
theorem Yf (ok:DR H C Q T a b c d) {p s e m w g t:Int} (r:VN x) (st:uq p s e m w g t) (hin:IQ x p s e m w g t) :
 uj a b c d x<=hdV a b c d p s e m t/\hdV a b c d p s e m t<=um a b c d x:=by
 have q1:=ok.ha; have q2:=ok.hab; have q3:=ok.hbc; have q4:=ok.hcd; have q5:=ok.hd
 obtain ⟨rp,rs,re,rm,I5,rg,rt⟩:=r
 obtain ⟨sp,sa,sb,sm,sw,sg,stt,uU⟩:=st
 obtain ⟨ip,is,ie,im,iw,ig,it⟩:=hin
 have hM:=Ac ok (t:=x.th) (by omega)
 have hN:=Ac ok (t:=x.tl) (by omega)
 have hT:=Ac ok (t:=t) (by omega)
 have m1:dU c d x.th<=dU c d t:=by unfold dU; omega
 have m2:dU c d t<=dU c d x.tl:=by unfold dU; omega
 have f1:=ahp (L:=1000000 - x.pl - x.al - x.bl - x.ml) (d0:=x.ph - x.pl) (d1:=x.ah - x.al) (d2:=x.bh - x.bl) (d3:=x.mh - x.ml) (h0:=a) (h1:=b) (h2:=c) (h3:=dU c d x.th) (x0:=p - x.pl) (x1:=s - x.al) (x2:=e - x.bl) (x3:=m - x.ml)
  ⟨by omega,by omega⟩ ⟨by omega,by omega⟩ ⟨by omega,by omega⟩ ⟨by omega,by omega⟩ (by omega) q2 q3 hM.1
 have f2:=ahq (L:=1000000 - x.pl - x.al - x.bl - x.ml) (d0:=x.mh - x.ml) (d1:=x.bh - x.bl) (d2:=x.ah - x.al) (d3:=x.ph - x.pl) (h0:=dU c d x.tl) (h1:=c) (h2:=b) (h3:=a) (x0:=m - x.ml) (x1:=e - x.bl) (x2:=s - x.al) (x3:=p - x.pl)
  ⟨by omega,by omega⟩ ⟨by omega,by omega⟩ ⟨by omega,by omega⟩ ⟨by omega,by omega⟩ (by omega) hN.1 q3 q2
 have g1:=Int.mul_le_mul_of_nonneg_left m1 sm.1
 have g2:=Int.mul_le_mul_of_nonneg_left m2 sm.1
 have e1:mZ (1000000 - x.pl - x.al - x.bl - x.ml) (x.ph - x.pl) (x.ah - x.al) (x.bh - x.bl) (x.mh - x.ml) a b c (dU c d x.th) (x.pl*a+x.al*b+x.bl*c+x.ml*dU c d x.th)<=p*a+s*b+e*c+m*dU c d t:=by
  have k:(p - x.pl)*a+(s - x.al)*b+(e - x.bl)*c+(m - x.ml)*dU c d x.th=p*a+s*b+e*c+m*dU c d x.th - (x.pl*a+x.al*b+x.bl*c+x.ml*dU c d x.th):=by
   rw [Int.sub_mul,Int.sub_mul,Int.sub_mul,Int.sub_mul]; omega
  rw [k] at f1
  unfold mZ at f1 ⊢
  omega
 have e2:p*a+s*b+e*c+m*dU c d t<=mZ (1000000 - x.pl - x.al - x.bl - x.ml) (x.mh - x.ml) (x.bh - x.bl) (x.ah - x.al) (x.ph - x.pl) (dU c d x.tl) c b a (x.pl*a+x.al*b+x.bl*c+x.ml*dU c d x.tl):=by
  have k:(m - x.ml)*dU c d x.tl+(e - x.bl)*c+(s - x.al)*b+(p - x.pl)*a=p*a+s*b+e*c+m*dU c d x.tl - (x.pl*a+x.al*b+x.bl*c+x.ml*dU c d x.tl):=by
   rw [Int.sub_mul,Int.sub_mul,Int.sub_mul,Int.sub_mul]; omega
  rw [k] at f2
  unfold mZ at f2 ⊢
  omega
 have n1:0<=p*a+s*b+e*c+m*dU c d t:=by
  have z1:=Int.mul_nonneg sp.1 q1
  have z2:=Int.mul_nonneg sa.1 (show 0<=b by omega)
  have z3:=Int.mul_nonneg sb.1 (show 0<=c by omega)
  have z4:=Int.mul_nonneg sm.1 (show 0<=dU c d t by omega)
  omega
 unfold uj um hdV
 generalize p*a+s*b+e*c+m*dU c d t=X at e1 e2 n1
 generalize mZ (1000000 - x.pl - x.al - x.bl - x.ml) (x.ph - x.pl) (x.ah - x.al) (x.bh - x.bl) (x.mh - x.ml) a b c (dU c d x.th) (x.pl*a+x.al*b+x.bl*c+x.ml*dU c d x.th)=Y at e1
 generalize mZ (1000000 - x.pl - x.al - x.bl - x.ml) (x.mh - x.ml) (x.bh - x.bl) (x.ah - x.al) (x.ph - x.pl) (dU c d x.tl) c b a (x.pl*a+x.al*b+x.bl*c+x.ml*dU c d x.tl)=Z at e2
 constructor
 ·rw [Int.tdiv_eq_ediv_of_nonneg n1]
  by_cases hY:0<=Y
  ·rw [Int.tdiv_eq_ediv_of_nonneg hY]; omega
  have:Y.tdiv 1000000= -((-Y).tdiv 1000000):=by rw [Int.neg_tdiv,Int.neg_neg]
  rw [this,Int.tdiv_eq_ediv_of_nonneg (by omega)]; omega
 rw [Int.tdiv_eq_ediv_of_nonneg n1,Int.tdiv_eq_ediv_of_nonneg (by omega)]; omega
theorem avg (a b c d:Int) (hx:BI x):∃ p s e m w g t,uq p s e m w g t/\IQ x p s e m w g t/\hdV a b c d p s e m t=uj a b c d x:=by
 obtain ⟨⟨rp,rs,re,rm,I5,rg,rt⟩,p,s,e,m,w,g,t,⟨sp,sa,sb,sm,sw,sg,stt,uU⟩,⟨ip,is,ie,im,iw,ig,it⟩⟩:=hx
 have q:∃ L a0 a1 a2 a3:Int,1000000 - x.pl - x.al - x.bl - x.ml=L/\bg (x.ph - x.pl) L=a0/\bg (x.ah - x.al) (L - a0)=a1/\bg (x.bh - x.bl) (L - a0 - a1)=a2/\bg (x.mh - x.ml) (L - a0 - a1 - a2)=a3:=⟨_,_,_,_,_,rfl,rfl,rfl,rfl,rfl⟩
 obtain ⟨L,a0,a1,a2,a3,qL,q0,q1,q2,q3⟩:=q
 have f:uj a b c d x=(x.pl*a+x.al*b+x.bl*c+x.ml*dU c d x.th+a0*a+a1*b+a2*c+a3*dU c d x.th).tdiv 1000000:=by
  unfold uj mZ
  simp only [qL,q0,q1,q2,q3]
 unfold bg at q0 q1 q2 q3
 refine ⟨x.pl+a0,x.al+a1,x.bl+a2,x.ml+a3,w,g,x.th,⟨by omega,by omega,by omega,by omega,by omega,by omega,by omega,by omega⟩,⟨by omega,by omega,by omega,by omega,by omega,by omega,by omega⟩,?_⟩
 rw [f]
 unfold hdV
 congr 1
 rw [Int.add_mul,Int.add_mul,Int.add_mul,Int.add_mul]; omega
theorem awr (a b c d:Int) (hx:BI x):∃ p s e m w g t,uq p s e m w g t/\IQ x p s e m w g t/\hdV a b c d p s e m t=um a b c d x:=by
 obtain ⟨⟨rp,rs,re,rm,I5,rg,rt⟩,p,s,e,m,w,g,t,⟨sp,sa,sb,sm,sw,sg,stt,uU⟩,⟨ip,is,ie,im,iw,ig,it⟩⟩:=hx
 have q:∃ L a0 a1 a2 a3:Int,1000000 - x.pl - x.al - x.bl - x.ml=L/\bg (x.mh - x.ml) L=a0/\bg (x.bh - x.bl) (L - a0)=a1/\bg (x.ah - x.al) (L - a0 - a1)=a2/\bg (x.ph - x.pl) (L - a0 - a1 - a2)=a3:=⟨_,_,_,_,_,rfl,rfl,rfl,rfl,rfl⟩
 obtain ⟨L,a0,a1,a2,a3,qL,q0,q1,q2,q3⟩:=q
 have f:um a b c d x=(x.pl*a+x.al*b+x.bl*c+x.ml*dU c d x.tl+a0*dU c d x.tl+a1*c+a2*b+a3*a).tdiv 1000000:=by
  unfold um mZ
  simp only [qL,q0,q1,q2,q3]
 unfold bg at q0 q1 q2 q3
 refine ⟨x.pl+a3,x.al+a2,x.bl+a1,x.ml+a0,w,g,x.tl,⟨by omega,by omega,by omega,by omega,by omega,by omega,by omega,by omega⟩,⟨by omega,by omega,by omega,by omega,by omega,by omega,by omega⟩,?_⟩
 rw [f]
 unfold hdV
 congr 1
 rw [Int.add_mul,Int.add_mul,Int.add_mul,Int.add_mul]; omega
theorem IQ.sub {y:jT} {p s e m w g t:Int} (h:kR x y) (k:IQ x p s e m w g t):IQ y p s e m w g t:=by
 obtain ⟨a1,a2,a3,a4,a5,a6,a7⟩:=h
 obtain ⟨b1,b2,b3,b4,b5,b6,b7⟩:=k
 constructor<;>omega
theorem ae1 (ok:DR H C Q T a b c d) {y:jT} (hx:BI x) (hy:BI y) (h:kR x y):uj a b c d y<=uj a b c d x/\um a b c d x<=um a b c d y:=by
 obtain ⟨_,_,_,_,_,_,_,s1,i1,e1⟩:=avg a b c d hx
 obtain ⟨_,_,_,_,_,_,_,s2,i2,e2⟩:=awr a b c d hx
 rw [<- e1, <- e2]
 exact ⟨(Yf ok hy.1 s1 (i1.sub h)).1,(Yf ok hy.1 s2 (i2.sub h)).2⟩
end
end Go.Proofs.YtnepigpnlnmlmaaGreatDoor

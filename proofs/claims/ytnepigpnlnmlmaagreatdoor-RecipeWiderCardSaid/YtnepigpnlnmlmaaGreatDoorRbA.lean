/- Boxes of a part: a greater box, and greater ranges of powers, have a greater step; curves become wider (plain). -/
import Derived.Test.YtnepigpnlnmlmaaGreatDoorRcpA
import Derived.Test.YtnepigpnlnmlmaaGreatDoorF06
import Derived.Test.YtnepigpnlnmlmaaGreatDoorF18
import Derived.Test.YtnepigpnlnmlmaaGreatDoorSteelEn
import Derived.Test.YtnepigpnlnmlmaaGreatDoorF09
import Derived.Test.YtnepigpnlnmlmaaGreatDoorF10
import Derived.Test.YtnepigpnlnmlmaaGreatDoorF05
import Derived.Test.YtnepigpnlnmlmaaGreatDoorF30
set_option linter.unusedVariables false
set_option linter.unusedSimpArgs false
namespace Go.Proofs.YtnepigpnlnmlmaaGreatDoor
open Go.dR
theorem Gw:∀ l:aV,vU l l
 | []=>trivial
 | _::l=>⟨Int.le_refl _,Gw l⟩
theorem vT:∀ {l m:aV},vU l m->∀ i,i<l.length->l.getD i default<=m.getD i default
 | [],[],_,i,h=>absurd h (by simp)
 | x::l,y::m,h,0,_=>by simpa using h.1
 | x::l,y::m,h,i+1,hi=>by simpa using vT h.2 i (by simpa using hi)
 | [],_::_,h,_,_=>h.elim
 | _::_,[],h,_,_=>h.elim
def aaQ:TL->TL->Prop
 | w::r,v::s=>(v.1<=w.1/\w.2<=v.2)/\aaQ r s
 | [],[]=>True
 | _,_=>False
theorem JU {p:Int} (hp:0<=p):∀ {W V:TL},aaQ W V->vU ((jB V p).map (·.1)) ((jB W p).map (·.1))/\vU ((jB W p).map (·.2)) ((jB V p).map (·.2))
 | [],[],_=>⟨trivial,trivial⟩
 | w::r,v::s,h=>by
  obtain ⟨h1,h2⟩:=JU hp h.2
  have m1:=Int.mul_le_mul_of_nonneg_left h.1.1 hp
  have m2:=Int.mul_le_mul_of_nonneg_left h.1.2 hp
  exact ⟨⟨Int.ediv_le_ediv (by decide) m1,h1⟩,⟨Int.ediv_le_ediv (by decide) m2,h2⟩⟩
 | [],_::_,h=>h.elim
 | _::_,[],h=>h.elim
section
variable {a b:Int} {T:TL} {L:au}
theorem aeX (ok:gU a b T L) {lo hi lo' hi':aV} (h1:vU lo' lo) (h2:vU hi hi') {d d':TL×Int×Int} (hd1:vU (d'.1.map (·.1)) (d.1.map (·.1))) (hd2:vU (d.1.map (·.2)) (d'.1.map (·.2))) (hl:d'.2=d.2) (l1:0<=d.2.1/\d.2.1<L.length) (l2:0<=d.2.2/\d.2.2<L.length)
 {y y':aV×aV} (hy:boxS b T L lo hi d=some y) (hy':boxS b T L lo' hi' d'=some y'):vU y'.1 y.1/\vU y.2 y'.2:=by
 unfold boxS at hy hy'
 split at hy
 ·split at hy'
  ·cases hy; cases hy'
   rw [hl]
   exact ⟨Gl ok l2 l2 (Int.le_refl _) h1 hd1,Gl ok l1 l1 (Int.le_refl _) h2 hd2⟩
  cases hy'
 cases hy
theorem Pm (ok:gU a b T L) (n sp:Int) {W V:TL} (hW:aaQ W V):∀ (t:TL) (lo hi lo' hi':aV) (z z':List (aV×aV)),vU lo' lo->vU hi hi'->(∀ x∈t,0<=x.1/\(0<=(nP n sp x.2).1/\(nP n sp x.2).1<L.length)/\(0<=(nP n sp x.2).2/\(nP n sp x.2).2<L.length))->
 jk b T L lo hi (dH n sp W t)=some z->jk b T L lo' hi' (dH n sp V t)=some z'->∀ i,i<z.length->vU (z'.getD i default).1 (z.getD i default).1/\vU (z.getD i default).2 (z'.getD i default).2
 | [],lo,hi,lo',hi',z,z',_,_,_,hz,_,i,hi9=>by cases hz; exact absurd hi9 (by simp)
 | x::t,lo,hi,lo',hi',z,z',h1,h2,ht,hz,hz',i,hi9=>by
  have hx:=ht x (by simp)
  unfold dH at hz hz'
  rw [List.map_cons] at hz hz'
  unfold jk at hz hz'
  cases hb:boxS b T L lo hi (qy n sp W x) with
  | none=>rw [hb] at hz; cases hz
  | some y=>
   cases hb':boxS b T L lo' hi' (qy n sp V x) with
   | none=>rw [hb'] at hz'; cases hz'
   | some y'=>
    rw [hb,Option.bind_some] at hz
    rw [hb',Option.bind_some] at hz'
    have hp:=JU hx.1 hW
    have hs:=aeX ok h1 h2 (d:=qy n sp W x) (d':=qy n sp V x) hp.1 hp.2 rfl hx.2.1 hx.2.2 hb hb'
    cases hr:jk b T L y.1 y.2 (t.map (qy n sp W)) with
    | none=>rw [hr] at hz; cases hz
    | some w=>
     cases hr':jk b T L y'.1 y'.2 (t.map (qy n sp V)) with
     | none=>rw [hr'] at hz'; cases hz'
     | some w'=>
      rw [hr] at hz; cases hz
      rw [hr'] at hz'; cases hz'
      cases i with
      | zero=>exact hs
      | succ i=>exact Pm ok n sp hW t y.1 y.2 y'.1 y'.2 w w' hs.1 hs.2 (λq hq=>ht q (by simp [hq])) hr hr' i (by simpa using hi9)
theorem agj (ok:gU a b T L) {x y x' y':Int} (h1:x'<=x) (h2:y<=y'):(yA T x' y').1<=(yA T x y).1/\(yA T x y).2<=(yA T x' y').2:=by
 have g1:=(lip (c:=1) (by decide) T x' x ok.Yn (Rat.intCast_le_intCast.2 h1)).1
 have g2:=(lip (c:=1) (by decide) T y y' ok.Yn (Rat.intCast_le_intCast.2 h2)).1
 have k1:(pl T x').floor<=(pl T x).floor:=Rat.floor_monotone (by grind)
 have k2:(-(pl T y')).floor<=(-(pl T y)).floor:=Rat.floor_monotone (by grind)
 unfold yA
 dsimp only
 omega
end
theorem bC0 {α σ ρ:Type} (v:α) (f:α->eY σ ρ):aW (some v) f=f v:=rfl
def U3 {α:Type} (E:α->Int):Int->List α->Int×Int
 | _,[]=>(0,0)
 | i,x::r=>if E x=0 then U3 E (i+1) r else (i,E x)
theorem XW {α:Type} {E:α->Int}:∀ {l:List α} {i:Int},(U3 E i l).2=0->∀ x∈l,E x=0
 | [],_,_,x,hx=>by cases hx
 | y::r,i,h,x,hx=>by
  rw [U3] at h
  by_cases c:E y=0
  ·rw [if_pos c] at h
   rcases List.mem_cons.1 hx with rfl | hx
   ·exact c
   exact XW h x hx
  rw [if_neg c] at h; exact absurd h c
theorem ND {α:Type} (E:α->Int) (fin:Option (Int×Int)):∀ (r:List α) (i:Int),dV (λi _ x=>if E x=0 then (.next ():eY Unit (Int×Int)) else .out (some (i,E x))) (λ_:Unit=>fin) i r ()=if (U3 E i r).2=0 then fin else some (U3 E i r)
 | [],_=>rfl
 | x::r,i=>by
  simp only [dV,U3]
  by_cases h:E x=0
  ·simp only [if_pos h]; exact ND E fin r _
  simp only [if_neg h]
def wM (a:Int) (p:Int×Int×Int):Int:=if dn p.1 0 (a - 1)=true then (if (dn p.2.1 0 2000 && dn p.2.2 0 2000)=true then (if decide (p.2.1<=p.2.2)=true then 0 else 9) else 2) else 6
theorem ad1 (u v w:Bool):bC [bG u 6,bG v 2,bG w 9]=if u=true then (if v=true then (if w=true then 0 else 9) else 2) else 6:=by cases u<;>cases v<;>cases w<;>rfl
theorem agJ (a i:Int) (p:Int×Int×Int):(if (wM a p != 0)=true then (eY.out (some (i,wM a p)):eY Int (Int×Int)) else .next (i+1))=uN (λ_=>i+1) (if wM a p=0 then (.next ():eY Unit (Int×Int)) else .out (some (i,wM a p))):=by
 by_cases h:wM a p=0
 ·rw [if_neg (by simpa using h),if_pos h]; rfl
 rw [if_pos (by simpa using h),if_neg h]; rfl
theorem agI (a i:Int) (p:Int×Int×Int):(if (!dn p.1 0 (a - 1))=true then (eY.out (some (i,6)):eY Int (Int×Int)) else if ((!dn p.2.1 0 2000) || (!dn p.2.2 0 2000))=true then .out (some (i,2)) else if decide (p.2.1>p.2.2)=true then .out (some (i,9)) else .next (i+1))=uN (λ_=>i+1) (if wM a p=0 then (.next ():eY Unit (Int×Int)) else .out (some (i,wM a p))):=by
 by_cases h1:dn p.1 0 (a - 1)=true
 ·rw [if_neg (by rw [h1]; decide)]
  by_cases h2:(dn p.2.1 0 2000 && dn p.2.2 0 2000)=true
  ·have h2':=h2
   rw [Bool.and_eq_true] at h2'
   rw [if_neg (by rw [h2'.1,h2'.2]; decide)]
   by_cases h3:p.2.1<=p.2.2
   ·have e:wM a p=0:=by unfold wM; rw [if_pos h1,if_pos h2,if_pos (decide_eq_true h3)]
    rw [e,if_neg (show ¬ decide (p.2.1>p.2.2)=true by rw [decide_eq_true_eq]; omega)]; rfl
   have e:wM a p=9:=by unfold wM; rw [if_pos h1,if_pos h2,if_neg (by rw [decide_eq_true_eq]; exact h3)]
   rw [e,if_pos (decide_eq_true (show p.2.1>p.2.2 by omega))]; rfl
  have e:wM a p=2:=by unfold wM; rw [if_pos h1,if_neg h2]
  rw [e,if_pos (by cases h4:dn p.2.1 0 2000<;>cases h5:dn p.2.2 0 2000<;>simp [h4,h5] at h2 ⊢)]; rfl
 have e:wM a p=6:=by unfold wM; rw [if_neg h1]
 rw [e,if_pos (by simpa using h1)]; rfl
section
variable (a b:Int) (T:TL) (L:au) (lo hi:aV) (W:TL) (dQ spread:Int) (H:aT) (C:aG) (Q:aJ) (K:aA) (g0 g1 g2 g3:Int) (P:aJ) (edge:Int)
def xA:Int×Int:=
 if (qx a b T L lo hi W dQ spread).2=0 then
  (if zN H C Q K g0 g1 g2 g3=0 then (if 6<P.length then (0,8) else if (U3 (wM a) 0 P).2=0 then (0,if dn edge 200 3000=true then 0 else 2) else U3 (wM a) 0 P) else (0,zN H C Q K g0 g1 g2 g3))
 else (0,(qx a b T L lo hi W dQ spread).2)
theorem wa1 {a:Int} (h:1<=a/\a<=12):IntKind.i64.wrap (a - 1)=a - 1:=IntWalk.i64_in _ ⟨by omega,by omega⟩
theorem aCx (ha:1<=a/\a<=12) (hp:P.length<1000):aK (Iu a P edge) 1000000000 0=some (if (U3 (wM a) 0 P).2=0 then (0,if dn edge 200 3000=true then 0 else 2) else U3 (wM a) 0 P):=by
 rw [eU (τ:=Unit) P (Iu a P edge) (λi _=>i) (λi _ p=>if wM a p=0 then (.next ():eY Unit (Int×Int)) else .out (some (i,wM a p))) (λ_=>some (0,if dn edge 200 3000=true then 0 else 2)) (by omega)
  (λi u hi=>by
   simp only [Iu,kK hi,if_true,if_pos (iK hi),Int.toNat_natCast,wS i (by omega),wit,unl,bC0,wa1 ha,r81,Option.bind_some,Option.isSome_some,implies_true,Option.getD_some]
   rw [fst _ (by simp),bC0,ad1]
   exact agJ a (i:Int) (P.getD i default))
  (λu=>by
   simp only [Iu,G7,Bool.false_eq_true,if_false,wit,unl,Option.bind_some]
   cases dn edge 200 3000<;>rfl) ()]
 refine (ND (wM a) _ P 0).trans ?_
 split<;>rfl
theorem avb (hT:T.length<1000) (hn:L.length<1000) (hL:∀ x∈L,x.length<1000) (h1:lo.length<1000000) (h2:hi.length<1000000) (hw:W.length<1000) (hR:H.length<=10/\C.length<=10/\Q.length<=10/\K.length<=10) (hp:P.length<1000) :
 r22 a b T L lo hi W dQ spread H C Q K g0 g1 g2 g3 P edge=some (xA a b T L lo hi W dQ spread H C Q K g0 g1 g2 g3 P edge):=by
 obtain ⟨v,hv⟩:=wJ H C Q K g0 g1 g2 g3
 have he:zN H C Q K g0 g1 g2 g3=v.2:=by unfold zN; rw [hv]; rfl
 unfold r22 xA
 rw [aEr a b T L lo hi W dQ spread hT hn hL h1 h2 hw,Option.bind_some,p14 H C Q K g0 g1 g2 g3 (by omega) (by omega) (by omega) (by omega),hv,Option.bind_some,unl,Option.bind_some,fst _ (by simp),Option.bind_some,he]
 by_cases c1:(qx a b T L lo hi W dQ spread).2=0
 rotate_left
 ·have:bC [(qx a b T L lo hi W dQ spread).2,v.2,bG (decide ((P.length:Int)<=6)) 8]=(qx a b T L lo hi W dQ spread).2:=if_neg c1
  rw [this,if_pos (by simpa using c1),if_neg c1]
 have B:=N8 c1
 rw [if_pos c1]
 by_cases c2:v.2=0
 rotate_left
 ·have:bC [(qx a b T L lo hi W dQ spread).2,v.2,bG (decide ((P.length:Int)<=6)) 8]=v.2:=(if_pos c1).trans (if_neg c2)
  rw [this,if_pos (by simpa using c2),if_neg c2]
 rw [if_pos c2]
 by_cases c3:6<P.length
 ·have:bC [(qx a b T L lo hi W dQ spread).2,v.2,bG (decide ((P.length:Int)<=6)) 8]=8:=(if_pos c1).trans ((if_pos c2).trans (by rw [decide_eq_false (by omega)]; rfl))
  rw [this,if_pos (by decide),if_pos c3]
 have:bC [(qx a b T L lo hi W dQ spread).2,v.2,bG (decide ((P.length:Int)<=6)) 8]=0:=(if_pos c1).trans ((if_pos c2).trans (by rw [decide_eq_true (by omega)]; rfl))
 rw [this,if_neg (by decide),if_neg c3,aCx a P edge B.box.lo.ok.cells hp]
theorem aCw (ha:1<=a/\a<=12) (hp:P.length<1000):aK (Ip a P edge) 1000000000 0=some (if (U3 (wM a) 0 P).2=0 then (0,if dn edge 200 3000=true then 0 else 2) else U3 (wM a) 0 P):=by
 rw [eU (τ:=Unit) P (Ip a P edge) (λi _=>i) (λi _ p=>if wM a p=0 then (.next ():eY Unit (Int×Int)) else .out (some (i,wM a p))) (λ_=>some (0,if dn edge 200 3000=true then 0 else 2)) (by omega)
  (λi u hi=>by
   simp only [Ip,kK hi,if_true,if_pos (iK hi),Int.toNat_natCast,wS i (by omega),p59,bC0,wa1 ha,Option.isSome_some,implies_true,Option.getD_some]
   exact agI a (i:Int) (P.getD i default))
  (λu=>by
   simp only [Ip,G7,Bool.false_eq_true,if_false,akX,Option.bind_some]
   cases dn edge 200 3000<;>rfl) ()]
 refine (ND (wM a) _ P 0).trans ?_
 split<;>rfl
theorem aC5 (hn:L.length<1000) (hL:∀ x∈L,x.length<1000) (h1:lo.length<1000000) (h2:hi.length<1000000) (hw:W.length<1000) (hp:P.length<1000) :
 r27 a b T L lo hi W dQ spread H C Q K g0 g1 g2 g3 P edge=some (xA a b T L lo hi W dQ spread H C Q K g0 g1 g2 g3 P edge):=by
 unfold r27 xA
 have e:r86 a b T L lo hi W dQ spread=some (qx a b T L lo hi W dQ spread).2:=by unfold r86; rw [aEq a b T L lo hi W dQ spread hn hL h1 h2 hw]; rfl
 rw [e,Option.bind_some,aCF,Option.bind_some]
 by_cases c1:(qx a b T L lo hi W dQ spread).2=0
 rotate_left
 ·rw [if_pos (by simpa using c1),if_neg c1]
 have B:=N8 c1
 rw [if_pos c1,if_neg (by simpa using c1)]
 by_cases c2:zN H C Q K g0 g1 g2 g3=0
 rotate_left
 ·rw [if_pos (by simpa using c2),if_neg c2]
 rw [if_pos c2,if_neg (by simpa using c2)]
 by_cases c3:6<P.length
 ·rw [if_pos (decide_eq_true (by omega)),if_pos c3]
 rw [if_neg (by rw [decide_eq_true_eq]; omega),if_neg c3,aCw a P edge B.box.lo.ok.cells hp]
end
structure Lh (a b:Int) (T:TL) (L:au) (lo hi:aV) (W:TL) (dQ spread:Int) (H:aT) (C:aG) (Q:aJ) (K:aA) (g0 g1 g2 g3:Int) (P:aJ) (edge:Int):Prop where
 ben:(qx a b T L lo hi W dQ spread).2=0
 Vz:wE a b T L lo hi W dQ spread
 rul:zN H C Q K g0 g1 g2 g3=0
 rok:DR H C Q K g0 g1 g2 g3
 agK:P.length<=6
 pts:∀ p∈P,(0<=p.1/\p.1<a)/\(0<=p.2.1/\p.2.1<=p.2.2/\p.2.2<=2000)
 edge:200<=edge/\edge<=3000
theorem akQ {a:Int} {p:Int×Int×Int} (h:wM a p=0):(0<=p.1/\p.1<a)/\(0<=p.2.1/\p.2.1<=p.2.2/\p.2.2<=2000):=by
 unfold wM at h
 split at h
 ·rename_i h1
  split at h
  ·rename_i h2
   split at h
   ·rename_i h3
    rw [decide_eq_true_eq] at h3
    rw [Bool.and_eq_true] at h2
    have a1:=dL.1 h1; have a2:=dL.1 h2.1; have a3:=dL.1 h2.2
    omega
   cases h
  cases h
 cases h
theorem MV {a b:Int} {T:TL} {L:au} {lo hi:aV} {W:TL} {dQ spread:Int} {H:aT} {C:aG} {Q:aJ} {K:aA} {g0 g1 g2 g3:Int} {P:aJ} {edge:Int}
 (h:(xA a b T L lo hi W dQ spread H C Q K g0 g1 g2 g3 P edge).2=0):Lh a b T L lo hi W dQ spread H C Q K g0 g1 g2 g3 P edge:=by
 unfold xA at h
 by_cases c1:(qx a b T L lo hi W dQ spread).2=0
 rotate_left
 ·rw [if_neg c1] at h; exact absurd h c1
 rw [if_pos c1] at h
 by_cases c2:zN H C Q K g0 g1 g2 g3=0
 rotate_left
 ·rw [if_neg c2] at h; exact absurd h c2
 rw [if_pos c2] at h
 by_cases c3:6<P.length
 ·rw [if_pos c3] at h; cases h
 rw [if_neg c3] at h
 by_cases c4:(U3 (wM a) 0 P).2=0
 rotate_left
 ·rw [if_neg c4] at h; exact absurd h c4
 rw [if_pos c4] at h
 obtain ⟨v,hv⟩:=wJ H C Q K g0 g1 g2 g3
 have he:zN H C Q K g0 g1 g2 g3=v.2:=by unfold zN; rw [hv]; rfl
 refine ⟨c1,N8 c1,c2,abr hv (he▸c2),by omega,λp hp=>akQ (XW c4 p hp),?_⟩
 by_cases c5:dn edge 200 3000=true
 ·exact dL.1 c5
 rw [if_neg c5] at h; cases h
section
variable {a b:Int} {T:TL} {L:au}
theorem auQ (ok:gU a b T L) (x:Rat):((200:Int):Rat)<=pl T x/\pl T x<=((3000:Int):Rat):=by
 have hl:=ok.LJ
 refine Ue T x ok.Yn (λp hp=> ?_) (λh=>by rw [h] at hl; simp at hl)
 obtain ⟨i,hi,rfl⟩:=Aa hp
 exact ok.yr i hi
theorem aiw (ok:gU a b T L) {x y:Int} (h:x<=y):200<=(yA T x y).1/\(yA T x y).1<=(yA T x y).2/\(yA T x y).2<=3000:=by
 have g1:=(lip (c:=1) (by decide) T x y ok.Yn (Rat.intCast_le_intCast.2 h)).1
 have h1:=auQ ok (x:Rat)
 have h2:=auQ ok (y:Rat)
 have f1:((pl T x).floor:Rat)<=pl T x:=Rat.le_floor_iff.1 (Int.le_refl _)
 have f2:((-(pl T y)).floor:Rat)<= -(pl T y):=Rat.le_floor_iff.1 (Int.le_refl _)
 have f3:(200:Int)<=(pl T x).floor:=Rat.le_floor_iff.2 h1.1
 have f4:(-3000:Int)<=(-(pl T y)).floor:=Rat.le_floor_iff.2 (by rw [Rat.intCast_neg]; grind)
 have f5:(pl T x).floor+(-(pl T y)).floor<=0:=by
  have:(((pl T x).floor+(-(pl T y)).floor:Int):Rat)<=((0:Int):Rat):=by rw [Rat.intCast_add]; grind
  exact Rat.intCast_le_intCast.1 this
 unfold yA
 dsimp only
 omega
structure amR (cs:au):Prop where
 len:cs.length<=12
 rows:∀ y∈cs,y.length<=200
 ends:∀ y∈cs,∀ e∈y,200<=e.1/\e.1<=e.2/\e.2<=3000
theorem aao {lo hi:aV} {l:List (TL×Int×Int)} {z:List (aV×aV)} (H:BoxOk a b T L lo hi) (hl:l.length<=200) (hd:∀ d∈l,iL a L d.1 d.2.1 d.2.2=0) (hz:jk b T L lo hi l=some z):amR (aZ a T z):=by
 have hc:=H.lo.ok.cells
 have hzl:=(vg l lo hi z hz).1
 have hall:=Eh H hd hz
 refine ⟨by unfold aZ; rw [List.length_map,List.length_range]; omega,λy hy=> ?_,λy hy e he=> ?_⟩
 ·unfold aZ at hy
  obtain ⟨i,hi,rfl⟩:=List.mem_map.1 hy
  unfold vX; rw [List.length_map]; omega
 unfold aZ at hy
 obtain ⟨i,hi,rfl⟩:=List.mem_map.1 hy
 unfold vX at he
 obtain ⟨q,hq,rfl⟩:=List.mem_map.1 he
 have B:=hall q hq
 have h1:=B.lo.len
 rw [List.mem_range] at hi
 exact aiw H.lo.ok (vT B.le i (by omega))
end
def rC (cs:au):Bool:=cs.any λy=>y.any λe=>decide (e.2 - e.1>50)
theorem yK {α:Type} (f:α->Int) (p:α->Bool) {v:Int} (hv:v≠0):∀ l:List α,(∀ x∈l,f x=if p x=true then v else 0)->bC (l.map f)=if l.any p=true then v else 0
 | [],_=>rfl
 | x::r,h=>by
  rw [List.map_cons,qG,h x (by simp),yK f p hv r (λy hy=>h y (by simp [hy])),List.any_cons]
  cases p x with
  | true=>rw [if_pos rfl,Bool.true_or,if_pos rfl]; exact if_neg hv
  | false=>rw [Bool.false_or]; exact if_pos rfl
theorem akR {cs:au} (h:amR cs):vJ cs=if rC cs=true then 8 else 0:=by
 have h12:=h.len
 unfold vJ rC
 rw [if_neg (by omega)]
 refine yK (v:=8) mG _ (by decide) cs λy hy=> ?_
 have hy2:=h.rows y hy
 unfold mG
 rw [if_neg (by omega)]
 refine yK (v:=8) (λx=>mX x.1 x.2) _ (by decide) y λe he=> ?_
 obtain ⟨e1,e2,e3⟩:=h.ends y hy e he
 unfold mX
 rw [if_pos (by rw [Bool.and_eq_true]; exact ⟨dL.2 ⟨by omega,by omega⟩,dL.2 ⟨by omega,by omega⟩⟩),if_pos e2]
 by_cases c:e.2 - e.1<=50
 ·rw [if_pos c,if_neg (by rw [decide_eq_true_eq]; omega)]
 rw [if_neg c,if_pos (by rw [decide_eq_true_eq]; omega)]
def MQ:jT:=Bj 1000000 0 0 0 0 0 0
theorem aiy:uq 1000000 0 0 0 0 0 0:=by constructor<;>decide
theorem PU:BI MQ:=(acy aiy).1
section
variable {a b:Int} {T:TL} {L:au} {lo hi:aV} {W:TL} {dQ spread:Int} {H:aT} {C:aG} {Q:aJ} {K:aA} {g0 g1 g2 g3:Int} {P:aJ} {edge:Int} {t:TL}
def kW (H:aT) (C:aG) (Q:aJ) (K:aA) (g0 g1 g2 g3:Int) (cs:au):TL:=cs.map λy=>Ik g0 g1 g2 g3 (oC H C Q K y MQ)
def iR (a b:Int) (T:TL) (L:au) (lo hi:aV) (W:TL) (spread:Int) (H:aT) (C:aG) (Q:aJ) (K:aA) (g0 g1 g2 g3:Int) (t:TL):TL×au×Int:=
 match jk b T L lo hi (dH L.length spread W t) with
 | none=>([],[],22)
 | some z=>if rC (aZ a T z)=true then ([],aZ a T z,8) else (kW H C Q K g0 g1 g2 g3 (aZ a T z),aZ a T z,0)
theorem Ro (B:wE a b T L lo hi W dQ spread) (ht:xX L t) {z:List (aV×aV)} (hz:jk b T L lo hi (dH L.length spread W t)=some z):amR (aZ a T z):=by
 have hl:(dH L.length spread W t).length<=200:=by unfold dH; rw [List.length_map]; exact ht.1
 exact aao B.box hl (zG (xZ B ht)).2 hz
theorem ae0 (O:Lh a b T L lo hi W dQ spread H C Q K g0 g1 g2 g3 P edge) (ht:xX L t) :
 r84 a b T L lo hi W dQ spread a b T L lo hi W dQ spread H C Q K g0 g1 g2 g3 P edge t=some (iR a b T L lo hi W spread H C Q K g0 g1 g2 g3 t):=by
 unfold r84 iR
 rw [ahD O.Vz ht,Option.bind_some]
 cases hz:jk b T L lo hi (dH L.length spread W t) with
 | none=>rfl
 | some z=>
  have hc:=Ro O.Vz ht hz
  obtain ⟨v,hv⟩:=wJ H C Q K g0 g1 g2 g3
  have he:zN H C Q K g0 g1 g2 g3=v.2:=by unfold zN; rw [hv]; rfl
  have h0:v.2=0:=he▸O.rul
  have l1:=O.rok.lH; have l2:=O.rok.lC; have l3:=O.rok.lQ; have l4:=O.rok.lT
  show (if ((0:Int) != 0)=true then _ else _)=_
  rw [if_neg (by decide),aCB aiy,Option.bind_some]
  show (if ((0:Int) != 0)=true then _ else (Zj H C Q K g0 g1 g2 g3 MQ.pl MQ.ph MQ.al MQ.ah MQ.bl MQ.bh MQ.ml MQ.mh MQ.wl MQ.wh MQ.gl MQ.gh MQ.tl MQ.th (aZ a T z)).bind _)=_
  rw [if_neg (by decide),z20 ⟨by omega,by omega,by omega,by omega⟩ hv MQ (aZ a T z) (by have:=hc.len; omega) (λy hy=>by have:=hc.rows y hy; omega),Option.bind_some]
  have e:bC [v.2,vY MQ,vJ (aZ a T z)]=if rC (aZ a T z)=true then 8 else 0:=by
   rw [h0,ahQ PU,akR hc]
   cases rC (aZ a T z)<;>rfl
  rw [e]
  show _=some (if rC (aZ a T z)=true then (([]:TL),aZ a T z,(8:Int)) else (kW H C Q K g0 g1 g2 g3 (aZ a T z),aZ a T z,0))
  cases hw:rC (aZ a T z) with
  | true=>rfl
  | false=>rfl
def N9 (a b:Int) (T:TL) (L:au) (lo hi:aV) (W:TL) (dQ spread:Int) (H:aT) (C:aG) (Q:aJ) (K:aA) (g0 g1 g2 g3:Int) (P:aJ) (edge:Int) (t:TL):TL×Int:=
 if (xA a b T L lo hi W dQ spread H C Q K g0 g1 g2 g3 P edge).2=0 then (if lJ L t=0 then ((iR a b T L lo hi W spread H C Q K g0 g1 g2 g3 t).1,(iR a b T L lo hi W spread H C Q K g0 g1 g2 g3 t).2.2) else ([],lJ L t)) else ([],(xA a b T L lo hi W dQ spread H C Q K g0 g1 g2 g3 P edge).2)
theorem aaD:(iR a b T L lo hi W spread H C Q K g0 g1 g2 g3 t).2.2≠0->(iR a b T L lo hi W spread H C Q K g0 g1 g2 g3 t).1=[]:=by
 unfold iR
 split
 ·exact λ_=>rfl
 split
 ·exact λ_=>rfl
 exact λh=>absurd rfl h
theorem Ye (hT:T.length<1000) (hn:L.length<1000) (hL:∀ x∈L,x.length<1000) (h1:lo.length<1000000) (h2:hi.length<1000000) (hw:W.length<1000) (hR:H.length<=10/\C.length<=10/\Q.length<=10/\K.length<=10) (hp:P.length<1000) (htl:t.length<1000000) :
 r24 a b T L lo hi W dQ spread H C Q K g0 g1 g2 g3 P edge t=some (N9 a b T L lo hi W dQ spread H C Q K g0 g1 g2 g3 P edge t):=by
 unfold r24 r82 N9
 rw [avb a b T L lo hi W dQ spread H C Q K g0 g1 g2 g3 P edge hT hn hL h1 h2 hw hR hp,Option.bind_some,Option.bind_some]
 dsimp only
 by_cases c:(xA a b T L lo hi W dQ spread H C Q K g0 g1 g2 g3 P edge).2=0
 rotate_left
 ·rw [if_neg (by simpa using c),if_pos (by simpa using c),if_neg c]
 have O:=MV c
 rw [if_pos (by simpa using c),if_pos c,aa3 t hn htl,Option.bind_some]
 by_cases c2:lJ L t=0
 rotate_left
 ·rw [if_pos (by simpa using c2),if_neg c2]
 rw [if_neg (by simpa using c2),if_pos c2,ae0 O (EG c2),Option.bind_some]
 by_cases c3:(iR a b T L lo hi W spread H C Q K g0 g1 g2 g3 t).2.2=0
 ·rw [if_neg (by simpa using c3),c3]
 rw [if_pos (by simpa using c3),aaD c3]
end
variable {cs:au}
theorem RF {α ρ:Type} (p:α->Bool) (w fin:Option ρ):∀ (r:List α) (i:Int),dV (λ_ _ x=>if p x=true then (.out w:eY Unit ρ) else .next ()) (λ_=>fin) i r ()=if r.any p=true then w else fin
 | [],_=>rfl
 | x::r,i=>by
  simp only [dV]
  cases h:p x with
  | true=>simp only [if_true,List.any_cons,h,Bool.true_or]
  | false=>simp only [Bool.false_eq_true,if_false,List.any_cons,h,Bool.false_or]; exact RF p w fin r _
def Sl {α:Type} (p:α->Bool):Int->List α->Option Int
 | _,[]=>none
 | i,x::r=>if p x=true then some i else Sl p (i+1) r
theorem XO {α ρ:Type} (p:α->Bool) (w:Int->Option ρ) (fin:Option ρ):∀ (r:List α) (i:Int),dV (λi _ x=>if p x=true then (.out (w i):eY Unit ρ) else .next ()) (λ_=>fin) i r ()=(Sl p i r).elim fin w
 | [],_=>rfl
 | x::r,i=>by
  simp only [dV,Sl]
  by_cases h:p x=true
  ·simp only [if_pos h]; rfl
  simp only [if_neg h]; exact XO p w fin r _
theorem XP {α:Type} {p:α->Bool}:∀ {r:List α} {i j:Int},Sl p i r=some j->i<=j/\j<i+r.length
 | [],_,_,h=>by cases h
 | x::r,i,j,h=>by
  rw [Sl] at h
  by_cases c:p x=true
  ·rw [if_pos c] at h; cases h; rw [List.length_cons]; omega
  rw [if_neg c] at h; have:=XP h; rw [List.length_cons]; omega
theorem ZA {α β:Type} [Inhabited α] (f:α->β) (l:List α) {i:Nat} (hi:i<l.length):(l.map f).take (i+1)=(l.map f).take i++[f (l.getD i default)]:=by
 rw [List.take_add_one,List.getElem?_eq_getElem (by simpa using hi),List.getElem_map,List.getD_eq_getElem?_getD,List.getElem?_eq_getElem hi]; rfl
section
variable {a b:Int} {T:TL} {L:au} {lo hi:aV} {W:TL} {dQ spread:Int} {H:aT} {C:aG} {Q:aJ} {K:aA} {g0 g1 g2 g3:Int} {P:aJ} {edge:Int} {t:TL}
theorem yS (hz:jk b T L lo hi (dH L.length spread W t)=none):iR a b T L lo hi W spread H C Q K g0 g1 g2 g3 t=([],[],22):=by unfold iR; rw [hz]
theorem uh {z:List (aV×aV)} (hz:jk b T L lo hi (dH L.length spread W t)=some z):iR a b T L lo hi W spread H C Q K g0 g1 g2 g3 t=if rC (aZ a T z)=true then ([],aZ a T z,8) else (kW H C Q K g0 g1 g2 g3 (aZ a T z),aZ a T z,0):=by unfold iR; rw [hz]
theorem Ij (c:(iR a b T L lo hi W spread H C Q K g0 g1 g2 g3 t).2.2=0):∃ z,jk b T L lo hi (dH L.length spread W t)=some z/\rC (aZ a T z)=false/\iR a b T L lo hi W spread H C Q K g0 g1 g2 g3 t=(kW H C Q K g0 g1 g2 g3 (aZ a T z),aZ a T z,0):=by
 cases hz:jk b T L lo hi (dH L.length spread W t) with
 | none=>rw [yS hz] at c; cases c
 | some z=>
  rw [uh hz] at c ⊢
  by_cases hw:rC (aZ a T z)=true
  ·rw [if_pos hw] at c; cases c
  rw [if_neg hw]; exact ⟨z,rfl,by simpa using hw,rfl⟩
def vK (bs:TL) (p:Int×Int×Int):Bool:=decide ((bs.getD p.1.toNat default).1<p.2.1) || decide ((bs.getD p.1.toNat default).2>p.2.2)
def yJ (edge:Int) (cs:au):Bool:=cs.any λy=>y.any λe=>decide (e.2>edge)
def lq (P:aJ) (edge:Int) (bs:TL) (cs:au) (none:Int×Int):Int×Int:=(Sl (vK bs) 0 P).elim (if yJ edge cs=true then ((P.length:Int),0) else none) (λi=>(i,0))
theorem QV (h:∀ y∈cs,y.length<=200):cs.flatten.length<=200*cs.length:=by
 induction cs with
 | nil=>simp
 | cons x r ih=>
  have h1:=h x (by simp)
  have h2:=ih λy hy=>h y (by simp [hy])
  rw [List.flatten_cons,List.length_append,List.length_cons]; omega
theorem Ku {i:Nat} (hi:i<cs.length):(cs.take (i+1)).flatten=(cs.take i).flatten++cs.getD i default:=by
 rw [List.take_add_one,List.getElem?_eq_getElem hi,List.flatten_append,List.getD_eq_getElem?_getD,List.getElem?_eq_getElem hi]; simp
theorem ahE (hl:cs.length<=12) (h:∀ y∈cs,y.length<=200):ach cs=some cs.flatten:=by
 have hf:∀ i,((cs.take i).flatten).length<=200*12:=λi=>by
  have:=QV (cs:=cs.take i) (λy hy=>h y (List.mem_of_mem_take hy))
  have h2:(cs.take i).length<=12:=by rw [List.length_take]; omega
  omega
 unfold ach
 refine jG (C9 cs) (λi s=>s=((((cs.take i).flatten).length:Int),(i:Int))) (λo=>o=some cs.flatten) cs.length ?_ ?_ _ rfl _ (by omega)
 ·rintro i _ hi rfl
  have h1:=h _ (getD_mem hi)
  have h2:=hf i
  have hw:IntKind.i64.wrap ((((cs.take i).flatten).length:Int)+((cs.getD i default).length:Int))=(((cs.take (i+1)).flatten).length:Int):=by
   rw [Ku hi,List.length_append,IntWalk.i64_in _ ⟨by omega,by omega⟩]; omega
  refine .inl ⟨_,?_,rfl⟩
  simp only [C9,kK hi,if_true,if_pos (iK hi),Int.toNat_natCast,wS i (by omega),hw]
  rw [if_neg (by rw [decide_eq_true_eq]; omega)]; rfl
 rintro _ rfl
 have h2:=hf cs.length
 simp only [C9,G7,Bool.false_eq_true,if_false]
 rw [if_pos ⟨by omega,by omega⟩]
 refine ⟨_,rfl,?_⟩
 refine jG (CZ cs) (λi s=>s=((i:Int),(cs.take i).flatten)) (λo=>o=some cs.flatten) cs.length ?_ ?_ _ rfl _ (by omega)
 ·rintro i _ hi rfl
  have h1:=h _ (getD_mem hi)
  have h3:=hf i
  refine .inl ⟨_,?_,rfl⟩
  simp only [CZ,kK hi,if_true,if_pos (iK hi),Int.toNat_natCast,wS i (by omega)]
  rw [if_pos ⟨by omega,by omega⟩,Ku hi]; rfl
 rintro _ rfl
 refine ⟨some cs.flatten,?_,rfl⟩
 simp only [CZ,G7,Bool.false_eq_true,if_false,List.take_length]
theorem awR (a b:Int) (T:TL) (L:au) (lo hi:aV) (W:TL) (dQ spread:Int) (H:aT) (C:aG) (Q:aJ) (K:aA) (g0 g1 g2 g3:Int) (P:aJ) (edge:Int) {f:TL} (hl:f.length<=2400) :
 aK (Io a b T L lo hi W dQ spread a b T L lo hi W dQ spread H C Q K g0 g1 g2 g3 P edge f) 1000000000 0=some (if (f.any λe=>decide (e.2>edge))=true then ((P.length:Int),0) else (0,12)):=by
 rw [eU (τ:=Unit) f (Io a b T L lo hi W dQ spread a b T L lo hi W dQ spread H C Q K g0 g1 g2 g3 P edge f) (λk _=>k) (λ_ _ e=>if decide (e.2>edge)=true then .out (some ((P.length:Int),0)) else .next ()) (λ_=>some (0,12)) (by omega)
  (λi u hi9=>by
   have hd:decide ((i:Int)>=0)=true:=decide_eq_true (by omega)
   simp only [Io,kK hi9,if_true,if_pos (iK hi9),Int.toNat_natCast,wS i (by omega),agw,bC0,hd]
   split<;>rfl)
  (λu=>by simp only [Io,G7,Bool.false_eq_true,if_false]) ()]
 refine (RF _ _ _ _ 0).trans ?_
 split<;>rfl
theorem aap (O:Lh a b T L lo hi W dQ spread H C Q K g0 g1 g2 g3 P edge) (ht:xX L t) :
 r85 a b T L lo hi W dQ spread a b T L lo hi W dQ spread H C Q K g0 g1 g2 g3 P edge t=some (if (iR a b T L lo hi W spread H C Q K g0 g1 g2 g3 t).2.2=0 then lq P edge (iR a b T L lo hi W spread H C Q K g0 g1 g2 g3 t).1 (iR a b T L lo hi W spread H C Q K g0 g1 g2 g3 t).2.1 (0,12) else (0,(iR a b T L lo hi W spread H C Q K g0 g1 g2 g3 t).2.2)):=by
 unfold r85
 rw [ae0 O ht,Option.bind_some]
 by_cases c:(iR a b T L lo hi W spread H C Q K g0 g1 g2 g3 t).2.2=0
 rotate_left
 ·rw [if_pos (by simpa using c),if_neg c]
 rw [if_neg (by simpa using c),if_pos c]
 obtain ⟨z,hz,hwd,hv⟩:=Ij c
 have hc:=Ro O.Vz ht hz
 have hlen:(aZ a T z).length=a.toNat:=by unfold aZ; rw [List.length_map,List.length_range]
 have hbl:(kW H C Q K g0 g1 g2 g3 (aZ a T z)).length=a.toNat:=by unfold kW; rw [List.length_map,hlen]
 have hpl:=O.agK
 rw [hv]
 dsimp only
 generalize aZ a T z=cs at hc hbl
 generalize kW H C Q K g0 g1 g2 g3 cs=bs at hbl
 rw [eU (τ:=Unit) P (KR a b T L lo hi W dQ spread a b T L lo hi W dQ spread H C Q K g0 g1 g2 g3 P edge (bs,cs,0)) (λk _=>k) (λi _ p=>if vK bs p=true then .out (some (i,0)) else .next ()) (λ_=>some (if yJ edge cs=true then ((P.length:Int),0) else (0,12))) (by omega)
  (λi u hi9=>by
   have hp:=(O.pts _ (getD_mem hi9)).1
   simp only [KR,kK hi9,if_true,if_pos (iK hi9),Int.toNat_natCast,wS i (by omega)]
   rw [if_pos ⟨hp.1,by rw [hbl]; omega⟩]
   unfold vK
   split<;>rfl)
  (λu=>by
   have hfl:cs.flatten.length<=2400:=by have:=QV hc.rows; have:=hc.len; omega
   simp only [KR,G7,Bool.false_eq_true,if_false]
   rw [ahE hc.len hc.rows,Option.bind_some,awR _ _ _ _ _ _ _ _ _ _ _ _ _ _ _ _ _ _ _ hfl,List.any_flatten]
   rfl) ()]
 refine (XO (vK bs) _ _ P 0).trans ?_
 unfold lq
 cases Sl (vK bs) 0 P<;>rfl
end
theorem ifS {c:Prop} {α β:Type} {v:β} {x y:α} [Decidable (c->(some v).isSome=true)]:(if c->(some v).isSome=true then x else y)=x:=if_pos λ_=>rfl
section
variable {a b:Int} {T:TL} {L:au} {lo hi:aV} {W:TL} {dQ spread:Int} {H:aT} {C:aG} {Q:aJ} {K:aA} {g0 g1 g2 g3:Int} {P:aJ} {edge:Int} {t:TL}
def X4 (a b:Int) (T:TL) (L:au) (lo hi:aV) (W:TL) (dQ spread:Int) (H:aT) (C:aG) (Q:aJ) (K:aA) (g0 g1 g2 g3:Int) (P:aJ) (edge:Int) (t:TL):Int×Int:=
 if (xA a b T L lo hi W dQ spread H C Q K g0 g1 g2 g3 P edge).2=0 then (if lJ L t=0 then (if (iR a b T L lo hi W spread H C Q K g0 g1 g2 g3 t).2.2=0 then lq P edge (iR a b T L lo hi W spread H C Q K g0 g1 g2 g3 t).1 (iR a b T L lo hi W spread H C Q K g0 g1 g2 g3 t).2.1 (0,12) else (0,(iR a b T L lo hi W spread H C Q K g0 g1 g2 g3 t).2.2)) else (0,lJ L t)) else (0,(xA a b T L lo hi W dQ spread H C Q K g0 g1 g2 g3 P edge).2)
theorem aex (hT:T.length<1000) (hn:L.length<1000) (hL:∀ x∈L,x.length<1000) (h1:lo.length<1000000) (h2:hi.length<1000000) (hw:W.length<1000) (hR:H.length<=10/\C.length<=10/\Q.length<=10/\K.length<=10) (hp:P.length<1000) (htl:t.length<1000000) :
 r26 a b T L lo hi W dQ spread H C Q K g0 g1 g2 g3 P edge t=some (X4 a b T L lo hi W dQ spread H C Q K g0 g1 g2 g3 P edge t):=by
 unfold r26 r82 X4
 rw [avb a b T L lo hi W dQ spread H C Q K g0 g1 g2 g3 P edge hT hn hL h1 h2 hw hR hp,Option.bind_some,Option.bind_some]
 dsimp only
 by_cases c:(xA a b T L lo hi W dQ spread H C Q K g0 g1 g2 g3 P edge).2=0
 rotate_left
 ·rw [if_neg (by simpa using c),if_pos (by simpa using c),if_neg c]
 have O:=MV c
 rw [if_pos (by simpa using c),if_pos c,aa3 t hn htl,Option.bind_some]
 by_cases c2:lJ L t=0
 rotate_left
 ·rw [if_pos (by simpa using c2),if_neg c2]
 rw [if_neg (by simpa using c2),if_pos c2,aap O (EG c2),Option.bind_some]
structure Few (T:TL) (L:au) (lo hi:aV) (W:TL) (H:aT) (C:aG) (Q:aJ) (K:aA) (P:aJ) (t:TL):Prop where
 hT:T.length<1000
 hn:L.length<1000
 hL:∀ x∈L,x.length<1000
 lo:lo.length<1000000
 hi:hi.length<1000000
 hw:W.length<1000
 hR:H.length<=10/\C.length<=10/\Q.length<=10/\K.length<=10
 hp:P.length<1000
 ht:t.length<1000
theorem aD9 (a b:Int) (T:TL) (L:au) (lo hi:aV) (W:TL) (dQ spread:Int) (H:aT) (C:aG) (Q:aJ) (K:aA) (g0 g1 g2 g3:Int) (P:aJ) (edge:Int) (t:TL) :
 ∃ v,r21 a b T L lo hi W dQ spread H C Q K g0 g1 g2 g3 P edge=some v/\(v=true->t.length<=30->Few T L lo hi W H C Q K P t):=by
 obtain ⟨v,h1,h2⟩:=light a b T L lo hi W dQ spread
 unfold r21
 rw [h1,Option.bind_some]
 have e:r78 H C Q K g0 g1 g2 g3=some (decide ((H.length:Int)<=10) && decide ((C.length:Int)<=10) && decide ((Q.length:Int)<=10) && decide ((K.length:Int)<=10)):=rfl
 rw [e,ifS]
 refine ⟨_,rfl,λh ht=> ?_⟩
 rw [Option.getD_some] at h
 simp only [Bool.and_eq_true,decide_eq_true_eq] at h
 obtain ⟨⟨hv,hr⟩,hp⟩:=h
 have q:=h2 hv
 exact ⟨by omega,by omega,q.2.2.2.2.2.2,by omega,by omega,by omega,by omega,by omega,by omega⟩
theorem aey (F:Few T L lo hi W H C Q K P t):r23 a b T L lo hi W dQ spread H C Q K g0 g1 g2 g3 P edge=some (a,b,T,L,lo,hi,W,dQ,spread,H,C,Q,K,g0,g1,g2,g3,P,edge):=by
 unfold r23
 rw [awZ a b T L lo hi W dQ spread F.hT F.hn F.hL F.lo F.hi F.hw,Option.bind_some,p15 g0 g1 g2 g3 F.hR,Option.bind_some,if_pos ⟨by have:=F.hp; omega,by have:=F.hp; omega⟩]
theorem Vs (h:t.length<1000):r25 t=some t:=by
 unfold r25; rw [if_pos ⟨by omega,by omega⟩]
end
variable {i:Nat}
theorem GK {α:Type} {p:α->Bool}:∀ {l:List α} {i:Int},Sl p i l=none->∀ x∈l,p x=false
 | [],_,_,x,hx=>by cases hx
 | y::r,i,h,x,hx=>by
  rw [Sl] at h
  by_cases c:p y=true
  ·rw [if_pos c] at h; cases h
  rw [if_neg c] at h
  rcases List.mem_cons.1 hx with rfl | hx
  ·simpa using c
  exact GK h x hx
theorem GI {α:Type} [Inhabited α] {p:α->Bool}:∀ {l:List α} {i j:Int},Sl p i l=some j->(∀ k:Nat,i+k<j->p (l.getD k default)=false)/\p (l.getD (j - i).toNat default)=true
 | [],_,_,h=>by cases h
 | y::r,i,j,h=>by
  rw [Sl] at h
  by_cases c:p y=true
  ·rw [if_pos c] at h
   obtain rfl:=Option.some.inj h
   exact ⟨λk hk=>absurd hk (by omega),by rw [show (i - i).toNat=0 by omega]; exact c⟩
  rw [if_neg c] at h
  obtain ⟨h1,h2⟩:=GI h
  have hb:=XP h
  refine ⟨λk hk=> ?_,?_⟩
  ·cases k with
   | zero=>simpa using c
   | succ k=>exact h1 k (by omega)
  rw [show (j - i).toNat=(j - (i+1)).toNat+1 by omega]; exact h2
theorem Xd {α:Type} [Inhabited α] (f:α->α) (l:List α) (hi:i<l.length):((l.map f).take i++l.drop i).set i (f (((l.map f).take i++l.drop i).getD i default))=(l.map f).take (i+1)++l.drop (i+1):=by
 have hlen:((l.map f).take i).length=i:=by rw [List.length_take,List.length_map]; omega
 have hd:l.drop i=l.getD i default::l.drop (i+1):=by
  rw [List.drop_eq_getElem_cons hi,List.getD_eq_getElem?_getD,List.getElem?_eq_getElem hi]; rfl
 have hg:((l.map f).take i++l.drop i).getD i default=l.getD i default:=by
  rw [List.getD_eq_getElem?_getD,List.getElem?_append_right (by omega),hlen,Nat.sub_self,hd]; rfl
 rw [hg,List.set_append_right _ _ (by omega),hlen,Nat.sub_self,hd,List.set_cons_zero,ZA f l hi,List.append_assoc]; rfl
theorem Xe {α:Type} (f:α->α) (l:List α) (i:Nat) (hi:i<=l.length):((l.map f).take i++l.drop i).length=l.length:=by
 rw [List.length_append,List.length_take,List.length_map,List.length_drop]; omega
theorem Xf {α:Type} [Inhabited α] (f:α->α) (l:List α) (hi:i<l.length):((l.map f).take i++l.drop i).getD i default=l.getD i default:=by
 have hlen:((l.map f).take i).length=i:=by rw [List.length_take,List.length_map]; omega
 rw [List.getD_eq_getElem?_getD,List.getElem?_append_right (by omega),hlen,Nat.sub_self,List.getElem?_drop,List.getD_eq_getElem?_getD,Nat.add_zero]
section
variable {H:aT} {C:aG} {Q:aJ} {K:aA} {g0 g1 g2 g3:Int}
def alC:TL->TL->Prop
 | e::r,f::s=>(e.1<=e.2/\f.1<=e.1/\e.2<=f.2)/\alC r s
 | [],[]=>True
 | _,_=>False
theorem Xg (ok:zo H C Q K):∀ {l m:TL} {x y:jT},alC l m->BI x->BI y->kR x y->kR (oC H C Q K l x) (oC H C Q K m y)
 | [],[],_,_,_,_,_,h=>h
 | e::r,f::s,x,y,hc,hx,hy,h=>by
  rw [oC,oC]
  exact Xg ok hc.2 (hx.range ok e.1 e.2) (hy.range ok f.1 f.2) (YJ ok hx hy h hc.1.1 hc.1.2.1 hc.1.2.2)
 | [],_::_,_,_,hc,_,_,_=>hc.elim
 | _::_,[],_,_,hc,_,_,_=>hc.elim
theorem XR:∀ {l m:TL},l.length=m.length->(∀ i,i<l.length->(l.getD i default).1<=(l.getD i default).2/\(m.getD i default).1<=(l.getD i default).1/\(l.getD i default).2<=(m.getD i default).2)->alC l m
 | [],[],_,_=>trivial
 | e::r,f::s,hl,h=>⟨h 0 (by simp),XR (by simpa using hl) λi hi=>h (i+1) (by simpa using hi)⟩
 | [],_::_,hl,_=>by simp at hl
 | _::_,[],hl,_=>by simp at hl
end
def uP (k:Int) (w:Int×Int):Int×Int:=(if 0<w.1 - k then w.1 - k else 0,if w.2+k<1000 then w.2+k else 1000)
def rU (k:Int) (p:Int×Int×Int):Int×Int×Int:=(p.1,if 0<p.2.1 - k then p.2.1 - k else 0,if p.2.2+k<2000 then p.2.2+k else 2000)
theorem ah9 {k:Int} (hk:0<=k/\k<=100):∀ {W:TL},(∀ w∈W,(0<=w.1/\w.1<=1000)/\(0<=w.2/\w.2<=1000)/\w.1<=w.2)->aaQ W (W.map (uP k))/\∀ w∈W.map (uP k),DU w=0
 | [],_=>⟨trivial,by simp⟩
 | w::r,h=>by
  have hw:=h w (by simp)
  obtain ⟨h1,h2⟩:=ah9 hk (W:=r) λx hx=>h x (by simp [hx])
  refine ⟨⟨by unfold uP; dsimp only; omega,h1⟩,λx hx=> ?_⟩
  rw [List.map_cons] at hx
  rcases List.mem_cons.1 hx with rfl | hx
  ·unfold DU uP
   dsimp only
   rw [if_pos (by rw [Bool.and_eq_true]; exact ⟨dL.2 (by omega),dL.2 (by omega)⟩),if_pos (by omega)]
  exact h2 x hx
theorem OE {fin:Int}:∀ {r:TL} {i:Int},(∀ w∈r,DU w=0)->OG fin i r=(0,fin)
 | [],_,_=>rfl
 | w::r,i,h=>by rw [OG,if_pos (h w (by simp))]; exact OE λx hx=>h x (by simp [hx])
theorem ahT {a b:Int} {T:TL} {L:au} {lo hi:aV} {W V:TL} {dQ spread:Int} (h:(qx a b T L lo hi W dQ spread).2=0) (hl:V.length=W.length) (hV:∀ w∈V,DU w=0):(qx a b T L lo hi V dQ spread).2=0:=by
 unfold qx at h ⊢
 by_cases c0:(bH a b T L).2=0
 ·rw [if_pos c0] at h ⊢
  by_cases c1:jQ a b T L lo hi=0
  ·rw [if_pos c1] at h ⊢
   rw [hl]
   by_cases c2:(W.length:Int)=a
   ·rw [if_pos c2] at h ⊢
    rw [OE hV]
    exact (Sr h).1
   rw [if_neg c2] at h; cases h
  rw [if_neg c1] at h; exact absurd h c1
 rw [if_neg c0] at h; exact absurd h c0
theorem PV {a:Int} {p:Int×Int×Int} (h1:0<=p.1/\p.1<a) (h2:0<=p.2.1/\p.2.1<=p.2.2/\p.2.2<=2000):wM a p=0:=by
 unfold wM
 rw [if_pos (dL.2 ⟨by omega,by omega⟩),if_pos (by rw [Bool.and_eq_true]; exact ⟨dL.2 (by omega),dL.2 (by omega)⟩),if_pos (decide_eq_true h2.2.1)]
theorem QW {α:Type} {E:α->Int}:∀ {l:List α} {i:Int},(∀ x∈l,E x=0)->U3 E i l=(0,0)
 | [],_,_=>rfl
 | x::r,i,h=>by rw [U3,if_pos (h x (by simp))]; exact QW λy hy=>h y (by simp [hy])
section
variable {a b:Int} {T:TL} {L:au} {lo hi:aV} {W:TL} {dQ spread:Int} {H:aT} {C:aG} {Q:aJ} {K:aA} {g0 g1 g2 g3:Int} {P:aJ} {edge:Int} {t:TL}
theorem P5 {V:TL} {R:aJ} {ed:Int} (h1:(qx a b T L lo hi V dQ spread).2=0) (h2:zN H C Q K g0 g1 g2 g3=0) (h3:R.length<=6) (h4:∀ p∈R,wM a p=0) (h5:200<=ed/\ed<=3000):(xA a b T L lo hi V dQ spread H C Q K g0 g1 g2 g3 R ed).2=0:=by
 unfold xA
 rw [if_pos h1,if_pos h2,if_neg (by omega),QW h4,if_pos rfl,if_pos (dL.2 h5)]
theorem Yd (cs:au) (h:i<cs.length):(kW H C Q K g0 g1 g2 g3 cs).getD i default=Ik g0 g1 g2 g3 (oC H C Q K (cs.getD i default) MQ):=by
 unfold kW
 rw [List.getD_eq_getElem?_getD,List.getElem?_map,List.getElem?_eq_getElem h,List.getD_eq_getElem?_getD,List.getElem?_eq_getElem h]; rfl
theorem aev (z:List (aV×aV)) (h:i<a.toNat):(aZ a T z).getD i default=vX T z i:=by
 unfold aZ
 rw [List.getD_eq_getElem?_getD,List.getElem?_map,List.getElem?_range h]; rfl
theorem X7 (z:List (aV×aV)) (i:Nat) {k:Nat} (h:k<z.length):(vX T z i).getD k default=yA T ((z.getD k default).1.getD i default) ((z.getD k default).2.getD i default):=by
 have e:z.getD k default=z[k]:=by rw [List.getD_eq_getElem?_getD,List.getElem?_eq_getElem h]; rfl
 unfold vX
 rw [List.getD_eq_getElem?_getD,List.getElem?_map,List.getElem?_eq_getElem h,e]; rfl
theorem XC:∀ {l m:aV},vU l m->l.length=m.length
 | [],[],_=>rfl
 | _::_,_::_,h=>congrArg (· +1) (XC h.2)
 | [],_::_,h=>h.elim
 | _::_,[],h=>h.elim
theorem aaC (O:Lh a b T L lo hi W dQ spread H C Q K g0 g1 g2 g3 P edge) (ht:xX L t) {V:TL} (hV:aaQ W V) (BV:wE a b T L lo hi V dQ spread) {z z':List (aV×aV)}
 (hz:jk b T L lo hi (dH L.length spread W t)=some z) (hz':jk b T L lo hi (dH L.length spread V t)=some z') (hi9:i<a.toNat) :
 ((kW H C Q K g0 g1 g2 g3 (aZ a T z')).getD i default).1<=((kW H C Q K g0 g1 g2 g3 (aZ a T z)).getD i default).1/\((kW H C Q K g0 g1 g2 g3 (aZ a T z)).getD i default).2<=((kW H C Q K g0 g1 g2 g3 (aZ a T z')).getD i default).2:=by
 have hl:∀ z,(aZ a T z).length=a.toNat:=λz=>by unfold aZ; rw [List.length_map,List.length_range]
 have hs:=O.Vz.spread
 have l1:=(vg _ lo hi z hz).1
 have l2:=(vg _ lo hi z' hz').1
 have e1:z.length=t.length:=by rw [l1]; unfold dH; rw [List.length_map]
 have e2:z'.length=t.length:=by rw [l2]; unfold dH; rw [List.length_map]
 have hw:=Pm O.Vz.box.lo.ok L.length spread hV t lo hi lo hi z z' (Gw lo) (Gw hi) (λx hx=>by
  have:=ht.2 x hx
  refine ⟨this.1.1,?_,?_⟩<;>(unfold nP; dsimp only; split<;>omega)) hz hz'
 have hok:=Eh O.Vz.box (zG (xZ O.Vz ht)).2 hz
 have hci:=Ro O.Vz ht hz
 have aI2:=Ro BV ht hz'
 rw [Yd _ (by rw [hl]; exact hi9),Yd _ (by rw [hl]; exact hi9),aev _ hi9,aev _ hi9]
 refine ae1 O.rok (BI.run O.rok.tozo _ PU) (BI.run O.rok.tozo _ PU) (Xg O.rok.tozo (XR ?_ λk hk=> ?_) PU PU (.refl _))
 ·unfold vX; rw [List.length_map,List.length_map]; omega
 have hk':k<z.length:=by unfold vX at hk; rwa [List.length_map] at hk
 rw [X7 z i hk',X7 z' i (by omega)]
 have hB:=hok _ (getD_mem hk')
 have hlen:=hB.lo.len
 have hlen2:=hB.hi.len
 have hle:=hw k hk'
 have hr:=aiw O.Vz.box.lo.ok (vT hB.le i (by omega))
 have h1:=vT hle.1 i (by have:=XC hle.1; omega)
 have h2:=vT hle.2 i (by omega)
 have:=agj (T:=T) (L:=L) O.Vz.box.lo.ok h1 h2
 exact ⟨hr.2.1,this.1,this.2⟩
end
section
variable {a b:Int} {T:TL} {L:au} {lo hi:aV} {W:TL} {dQ spread:Int} {H:aT} {C:aG} {Q:aJ} {K:aA} {g0 g1 g2 g3:Int} {P:aJ} {edge:Int} {t:TL}
theorem aaP {bs cs:TL} (e1 e2:Int) (hl:cs.length=bs.length) (hn:bs.length<1000) (h:∀ i,i<bs.length->(cs.getD i default).1<=(bs.getD i default).1/\(bs.getD i default).2<=(cs.getD i default).2):aK (VA (bs,e1) (cs,e2)) 1000000000 0=some true:=by
 refine jG (VA (bs,e1) (cs,e2)) (λi s=>s=(i:Int)) (λo=>o=some true) cs.length ?_ ?_ _ rfl _ (by omega)
 ·rintro i _ hi rfl
  have hk:=h i (by omega)
  have hb:i<bs.length:=by omega
  have c:((decide ((cs.getD i default).1>(bs.getD i default).1)) || (decide ((cs.getD i default).2<(bs.getD i default).2)))=false:=by
   rw [decide_eq_false (show ¬ (cs.getD i default).1>(bs.getD i default).1 by omega),decide_eq_false (show ¬ (cs.getD i default).2<(bs.getD i default).2 by omega)]; rfl
  refine .inl ⟨_,?_,rfl⟩
  simp only [VA,kK hi,if_true,if_pos (iK hi),if_pos (iK hb),Int.toNat_natCast,wS i (by omega)]
  rw [if_pos (λ_=>iK hi),if_pos (λ_=>iK hb),c,if_neg (by decide)]; rfl
 rintro _ rfl
 exact ⟨some true,by simp only [VA,G7,Bool.false_eq_true,if_false],rfl⟩
theorem Yy (O:Lh a b T L lo hi W dQ spread H C Q K g0 g1 g2 g3 P edge) (F:Few T L lo hi W H C Q K P t) (hk:xX L t) (ht0:lJ L t=0) {mg:Int} (hby:0<=mg/\mg<=100) {z:List (aV×aV)} (hz:jk b T L lo hi (dH L.length spread W t)=some z) :
 aK (aaE t mg (kW H C Q K g0 g1 g2 g3 (aZ a T z),0) (a,b,T,L,lo,hi,W,dQ,spread,H,C,Q,K,g0,g1,g2,g3,P,edge)) 1000000000 (0,W)=some true:=by
 have hW:=F.hw
 obtain ⟨w1,w2⟩:=ah9 hby O.Vz.wts
 refine jG _ (λi s=>s=((i:Int),(W.map (uP mg)).take i++W.drop i)) (λo=>o=some true) W.length ?_ ?_ _ rfl _ (by omega)
 ·rintro i _ hi9 rfl
  have hlen:=Xe (uP mg) W i (by omega)
  have hg:=Xf (uP mg) W hi9
  have hw:=O.Vz.wts _ (getD_mem hi9)
  have k1:IntKind.i64.wrap ((W.getD i default).1 - mg)=(W.getD i default).1 - mg:=IntWalk.i64_in _ ⟨by omega,by omega⟩
  have k2:IntKind.i64.wrap ((W.getD i default).2+mg)=(W.getD i default).2+mg:=IntWalk.i64_in _ ⟨by omega,by omega⟩
  have hi':i<((W.map (uP mg)).take i++W.drop i).length:=by omega
  refine .inl ⟨_,?_,rfl⟩
  simp only [aaE,kK hi',if_true,if_pos (iK hi'),Int.toNat_natCast,wS i (by omega),hg,k1,k2]
  have e:=Xd (uP mg) W hi9
  rw [hg] at e
  exact congrArg eY.next (Prod.ext rfl e)
 rintro _ rfl
 have e:(W.map (uP mg)).take W.length++W.drop W.length=W.map (uP mg):=by rw [List.take_of_length_le (by rw [List.length_map]; omega),List.drop_length,List.append_nil]
 rw [e]
 have hvl:(W.map (uP mg)).length=W.length:=List.length_map ..
 have hlt:decide ((W.length:Int)<((W.map (uP mg)).length:Int))=false:=decide_eq_false (by omega)
 have hb:=ahT O.ben hvl w2
 have BV:=N8 hb
 have ho:=P5 (R:=P) (ed:=edge) hb O.rul O.agK (λp hp=>PV (O.pts p hp).1 (O.pts p hp).2) O.edge
 have OV:=MV ho
 simp only [aaE,hlt,Bool.false_eq_true,if_false]
 refine ⟨_,rfl,?_⟩
 rw [Vs F.ht,Option.bind_some,Ye F.hT F.hn F.hL F.lo F.hi (by rw [hvl]; exact F.hw) F.hR F.hp (by have:=F.ht; omega),Option.bind_some]
 unfold N9
 rw [if_pos ho,if_pos ht0]
 by_cases c:(iR a b T L lo hi (W.map (uP mg)) spread H C Q K g0 g1 g2 g3 t).2.2=0
 rotate_left
 ·have hc:(iR a b T L lo hi (W.map (uP mg)) spread H C Q K g0 g1 g2 g3 t).2.2=22\/(iR a b T L lo hi (W.map (uP mg)) spread H C Q K g0 g1 g2 g3 t).2.2=8:=by
   cases hz':jk b T L lo hi (dH L.length spread (W.map (uP mg)) t) with
   | none=>rw [yS hz']; exact .inl rfl
   | some y=>
    rw [uh hz'] at c ⊢
    by_cases hw:rC (aZ a T y)=true
    ·rw [if_pos hw]; exact .inr rfl
    rw [if_neg hw] at c; exact absurd rfl c
  dsimp only
  rw [if_pos (by simpa using c)]
  rcases hc with hc | hc<;>rw [hc]<;>rfl
 obtain ⟨y,hy,hwd,he⟩:=Ij c
 rw [he]
 dsimp only
 have l1:∀ z,(kW H C Q K g0 g1 g2 g3 (aZ a T z)).length=a.toNat:=λz=>by unfold kW aZ; rw [List.length_map,List.length_map,List.length_range]
 have hac:=O.Vz.box.lo.ok.cells
 rw [if_neg (by decide),if_neg (by rw [l1,l1]; simp)]
 exact aaP 0 0 (by rw [l1,l1]) (by rw [l1]; omega) λi hi9=>by
  rw [l1] at hi9
  exact aaC O hk w1 BV hz hy hi9
theorem Us (O:Lh a b T L lo hi W dQ spread H C Q K g0 g1 g2 g3 P edge) (F:Few T L lo hi W H C Q K P t) (hk:xX L t) (ht0:lJ L t=0) {mg:Int} (hby:0<=mg/\mg<=100) {z:List (aV×aV)} (hz:jk b T L lo hi (dH L.length spread W t)=some z) (hwd:rC (aZ a T z)=false) :
 aK (aaF a b T L lo hi W dQ spread H C Q K g0 g1 g2 g3 P edge t mg (kW H C Q K g0 g1 g2 g3 (aZ a T z),0) (lq P edge (kW H C Q K g0 g1 g2 g3 (aZ a T z)) (aZ a T z) (0,12)) (a,b,T,L,lo,hi,W,dQ,spread,H,C,Q,K,g0,g1,g2,g3,P,edge)) 1000000000 (0,P)=some true:=by
 have hP:=F.hp
 have hE:=O.edge
 refine jG _ (λi s=>s=((i:Int),(P.map (rU mg)).take i++P.drop i)) (λo=>o=some true) P.length ?_ ?_ _ rfl _ (by omega)
 ·rintro i _ hi9 rfl
  have hlen:=Xe (rU mg) P i (by omega)
  have hg:=Xf (rU mg) P hi9
  have hw:=(O.pts _ (getD_mem hi9)).2
  have k1:IntKind.i64.wrap ((P.getD i default).2.1 - mg)=(P.getD i default).2.1 - mg:=IntWalk.i64_in _ ⟨by omega,by omega⟩
  have k2:IntKind.i64.wrap ((P.getD i default).2.2+mg)=(P.getD i default).2.2+mg:=IntWalk.i64_in _ ⟨by omega,by omega⟩
  have hi':i<((P.map (rU mg)).take i++P.drop i).length:=by omega
  refine .inl ⟨_,?_,rfl⟩
  simp only [aaF,kK hi',if_true,if_pos (iK hi'),Int.toNat_natCast,wS i (by omega),hg,k1,k2]
  have e:=Xd (rU mg) P hi9
  rw [hg] at e
  exact congrArg eY.next (Prod.ext rfl e)
 rintro _ rfl
 have e:(P.map (rU mg)).take P.length++P.drop P.length=P.map (rU mg):=by rw [List.take_of_length_le (by rw [List.length_map]; omega),List.drop_length,List.append_nil]
 rw [e]
 have hvl:(P.map (rU mg)).length=P.length:=List.length_map ..
 have hlt:decide ((P.length:Int)<((P.map (rU mg)).length:Int))=false:=decide_eq_false (by omega)
 have kE:IntKind.i64.wrap (edge+mg)=edge+mg:=IntWalk.i64_in _ ⟨by omega,by omega⟩
 have hpt:∀ p∈P.map (rU mg),wM a p=0:=λp hp=>by
  obtain ⟨q,hq,rfl⟩:=List.mem_map.1 hp
  have h1:=O.pts q hq
  exact PV h1.1 (by unfold rU; dsimp only; omega)
 have ho:=P5 (V:=W) (R:=P.map (rU mg)) (ed:=if edge+mg<3000 then edge+mg else 3000) O.ben O.rul (by rw [hvl]; exact O.agK) hpt (by split<;>omega)
 have hbv:iR a b T L lo hi W spread H C Q K g0 g1 g2 g3 t=(kW H C Q K g0 g1 g2 g3 (aZ a T z),aZ a T z,0):=by
  rw [uh hz,if_neg (by rw [hwd]; decide)]
 have hcv:=Ro O.Vz hk hz
 simp only [aaF,hlt,Bool.false_eq_true,if_false,kE]
 refine ⟨_,rfl,?_⟩
 rw [Vs F.ht,Option.bind_some,aex F.hT F.hn F.hL F.lo F.hi F.hw F.hR (by rw [hvl]; exact F.hp) (by have:=F.ht; omega),Option.bind_some]
 unfold X4
 rw [if_pos ho,if_pos ht0,hbv,if_pos rfl]
 have key:(lq P edge (kW H C Q K g0 g1 g2 g3 (aZ a T z)) (aZ a T z) (0,12)).2=12->(lq (P.map (rU mg)) (if edge+mg<3000 then edge+mg else 3000) (kW H C Q K g0 g1 g2 g3 (aZ a T z)) (aZ a T z) (0,12)).2=12:=by
  generalize kW H C Q K g0 g1 g2 g3 (aZ a T z)=bs
  generalize aZ a T z=cs at hcv
  intro h
  unfold lq at h ⊢
  cases hx:Sl (vK bs) 0 P with
  | some i=>rw [hx] at h; exact absurd (show (0:Int)=12 from h) (by decide)
  | none=>
   rw [hx] at h
   have h2:(if yJ edge cs=true then ((P.length:Int),(0:Int)) else (0,12)).2=12:=h
   have hh:yJ edge cs=false:=by
    cases hh:yJ edge cs with
    | false=>rfl
    | true=>rw [hh] at h2; exact absurd (show (0:Int)=12 from h2) (by decide)
   have hall:=GK hx
   have n1:Sl (vK bs) 0 (P.map (rU mg))=none:=by
    cases hy:Sl (vK bs) 0 (P.map (rU mg)) with
    | none=>rfl
    | some j=>
     exfalso
     have hj:=(GI hy).2
     have hjb:=XP hy
     have hjl:(j - 0).toNat<P.length:=by rw [List.length_map] at hjb; omega
     have eg:(P.map (rU mg)).getD (j - 0).toNat default=rU mg (P.getD (j - 0).toNat default):=by
      rw [List.getD_eq_getElem?_getD,List.getElem?_map,List.getElem?_eq_getElem hjl,List.getD_eq_getElem?_getD,List.getElem?_eq_getElem hjl]; rfl
     rw [eg] at hj
     have hm:=getD_mem (l:=P) hjl
     have h3:=hall _ hm
     have h4:=(O.pts _ hm).2
     unfold vK rU at*
     dsimp only at hj
     rw [Bool.or_eq_false_iff,decide_eq_false_iff_not,decide_eq_false_iff_not] at h3
     rw [Bool.or_eq_true,decide_eq_true_eq,decide_eq_true_eq] at hj
     have hb:(bs.getD (P.getD (j - 0).toNat default).1.toNat default).2<=2000:=by omega
     rcases hj with hj | hj
     ·split at hj<;>omega
     split at hj<;>omega
   rw [n1]
   have n2:yJ (if edge+mg<3000 then edge+mg else 3000) cs=false:=by
    unfold yJ at hh ⊢
    rw [List.any_eq_false] at hh ⊢
    intro y hy hc
    rw [List.any_eq_true] at hc
    obtain ⟨x,hx1,hx2⟩:=hc
    have h5:=hh y hy
    rw [List.any_eq_true] at h5
    rw [decide_eq_true_eq] at hx2
    have h6:=(hcv.ends y hy x hx1).2.2
    have h7:¬ x.2>edge:=λhgt=>h5 ⟨x,hx1,decide_eq_true hgt⟩
    split at hx2<;>omega
   show (if yJ (if edge+mg<3000 then edge+mg else 3000) cs=true then ((((P.map (rU mg)).length:Nat):Int),(0:Int)) else (0,12)).2=12
   rw [n2]; rfl
 have c:(((lq P edge (kW H C Q K g0 g1 g2 g3 (aZ a T z)) (aZ a T z) (0,12)).2 == 12) && ((lq (P.map (rU mg)) (if edge+mg<3000 then edge+mg else 3000) (kW H C Q K g0 g1 g2 g3 (aZ a T z)) (aZ a T z) (0,12)).2 != 12))=false:=by
  by_cases hc:(lq P edge (kW H C Q K g0 g1 g2 g3 (aZ a T z)) (aZ a T z) (0,12)).2=12
  ·rw [key hc]; simp
  have:((lq P edge (kW H C Q K g0 g1 g2 g3 (aZ a T z)) (aZ a T z) (0,12)).2 == 12)=false:=by simpa using hc
  rw [this]; rfl
 dsimp only
 rw [c,if_neg (by decide),aey F,Option.bind_some]
 exact Yy O F hk ht0 hby hz
theorem aaq (bs:TL) (cs:au):∀ i:Nat,i<P.length->((((lq P edge bs cs (0,12)).2 == 12) || decide ((i:Int)<(lq P edge bs cs (0,12)).1))=true->vK bs (P.getD i default)=false)/\((((lq P edge bs cs (0,12)).2 == 0) && ((i:Int) == (lq P edge bs cs (0,12)).1))=true->vK bs (P.getD i default)=true):=by
 intro i hi
 unfold lq
 cases hx:Sl (vK bs) 0 P with
 | some j=>
  obtain ⟨h1,h2⟩:=GI hx
  show ((((0:Int) == 12) || decide ((i:Int)<j))=true->_)/\((((0:Int) == 0) && ((i:Int) == j))=true->_)
  refine ⟨λh=>h1 i ?_,λh=> ?_⟩
  ·rw [Bool.or_eq_true,decide_eq_true_eq] at h
   rcases h with h | h
   ·exact absurd h (by decide)
   omega
  ·rw [Bool.and_eq_true,beq_iff_eq,beq_iff_eq] at h
   rw [<- h.2] at h2
   rw [show ((i:Int) - 0).toNat=i by omega] at h2
   exact h2
 | none=>
  have hall:=GK hx
  refine ⟨λ_=>hall _ (getD_mem hi),λh=> ?_⟩
  exfalso
  have h':(((if yJ edge cs=true then ((P.length:Int),(0:Int)) else (0,12)).2 == 0) && ((i:Int) == (if yJ edge cs=true then ((P.length:Int),(0:Int)) else (0,12)).1))=true:=h
  cases hh:yJ edge cs with
  | true=>
   rw [hh,if_pos rfl,Bool.and_eq_true,beq_iff_eq,beq_iff_eq] at h'
   have:=h'.2
   dsimp only at this
   omega
  | false=>rw [hh] at h'; exact absurd (show (((12:Int) == 0) && ((i:Int) == 0))=true from h') (by rw [show ((12:Int) == 0)=false from rfl,Bool.false_and]; decide)
theorem aew (bs:TL) (cs:au):((lq P edge bs cs (0,12)).2=0/\dn (lq P edge bs cs (0,12)).1 0 (P.length:Int)=true)\/(lq P edge bs cs (0,12)).2=12:=by
 unfold lq
 cases hx:Sl (vK bs) 0 P with
 | some j=>
  have:=XP hx
  exact .inl ⟨rfl,dL.2 ⟨by show 0<=j; omega,by show j<=_; omega⟩⟩
 | none=>
  show ((if yJ edge cs=true then ((P.length:Int),(0:Int)) else (0,12)).2=0/\dn (if yJ edge cs=true then ((P.length:Int),(0:Int)) else (0,12)).1 0 (P.length:Int)=true)\/(if yJ edge cs=true then ((P.length:Int),(0:Int)) else (0,12)).2=12
  cases yJ edge cs with
  | true=>exact .inl ⟨rfl,dL.2 ⟨by show (0:Int)<=(P.length:Int); omega,Int.le_refl _⟩⟩
  | false=>exact .inr rfl
end
theorem uH (a b:Int) (T:TL) (L:au) (lo hi:aV) (W:TL) (dQ spread:Int) (H:aT) (C:aG) (Q:aJ) (K:aA) (g0 g1 g2 g3:Int) (P:aJ) (edge:Int) (t:TL) (mg:Int) :
 r6 a b T L lo hi W dQ spread H C Q K g0 g1 g2 g3 P edge t mg=some true:=by
 obtain ⟨v,hv,hf⟩:=aD9 a b T L lo hi W dQ spread H C Q K g0 g1 g2 g3 P edge t
 unfold r6
 rw [amn,Option.bind_some,if_neg (by decide),hv,Option.bind_some]
 by_cases c0:((!v) || decide ((t.length:Int)>30))=true
 ·rw [c0]
  simp
 have c0':((!v) || decide ((t.length:Int)>30))=false:=by simpa using c0
 rw [Bool.or_eq_true,decide_eq_true_eq,not_or] at c0
 have F:=hf (by simpa using c0.1) (by omega)
 have ht:=F.ht
 have e32:r32 a b T L lo hi W dQ spread H C Q K g0 g1 g2 g3 P edge=some (xA a b T L lo hi W dQ spread H C Q K g0 g1 g2 g3 P edge).2:=by
  unfold r32; rw [aC5 a b T L lo hi W dQ spread H C Q K g0 g1 g2 g3 P edge F.hn F.hL F.lo F.hi F.hw F.hp]; rfl
 rw [c0',e32,ajS a b T L lo hi W dQ spread t F.hn,p59]
 simp only [Option.isSome_some,implies_true,if_true,Option.getD_some,Bool.false_or]
 by_cases c:(xA a b T L lo hi W dQ spread H C Q K g0 g1 g2 g3 P edge).2=0
 rotate_left
 ·rw [if_pos]
  rw [Bool.or_eq_true,Bool.or_eq_true]; exact .inl (.inl (by simpa using c))
 by_cases c2:lJ L t=0
 rotate_left
 ·rw [if_pos]
  rw [Bool.or_eq_true,Bool.or_eq_true]; exact .inl (.inr (by simpa using c2))
 by_cases c1:dn mg 0 100=true
 rotate_left
 ·rw [if_pos]
  rw [Bool.or_eq_true]; exact .inr (by simpa using c1)
 have O:=MV c
 have hk:=EG c2
 rw [if_neg (by rw [c,c2,c1]; decide),aey F,Option.bind_some,Vs ht,Option.bind_some]
 dsimp only
 rw [Ye F.hT F.hn F.hL F.lo F.hi F.hw F.hR F.hp (by omega),Option.bind_some,aex F.hT F.hn F.hL F.lo F.hi F.hw F.hR F.hp (by omega),Option.bind_some]
 unfold N9 X4
 rw [if_pos c,if_pos c2,if_pos c,if_pos c2]
 dsimp only
 by_cases c3:(iR a b T L lo hi W spread H C Q K g0 g1 g2 g3 t).2.2=0
 rotate_left
 ·have hc:(iR a b T L lo hi W spread H C Q K g0 g1 g2 g3 t).2.2=22\/(iR a b T L lo hi W spread H C Q K g0 g1 g2 g3 t).2.2=8:=by
   cases hz':jk b T L lo hi (dH L.length spread W t) with
   | none=>rw [yS hz']; exact .inl rfl
   | some y=>
    rw [uh hz'] at c3 ⊢
    by_cases hw:rC (aZ a T y)=true
    ·rw [if_pos hw]; exact .inr rfl
    rw [if_neg hw] at c3; exact absurd rfl c3
  rw [if_pos (by simpa using c3),if_neg c3]
  rcases hc with hc | hc<;>rw [hc]<;>rfl
 obtain ⟨z,hz,hwd,he⟩:=Ij c3
 rw [if_pos c3,he]
 dsimp only
 have l1:(kW H C Q K g0 g1 g2 g3 (aZ a T z)).length=a.toNat:=by unfold kW aZ; rw [List.length_map,List.length_map,List.length_range]
 have hac:=O.Vz.box.lo.ok.cells
 have hpl:=O.agK
 have e1:((((kW H C Q K g0 g1 g2 g3 (aZ a T z)).length:Nat):Int) != a)=false:=by rw [l1]; simp; omega
 rw [if_neg (by decide),e1,p59]
 have hr:=aew (P:=P) (edge:=edge) (kW H C Q K g0 g1 g2 g3 (aZ a T z)) (aZ a T z)
 have hec:=aaq (P:=P) (edge:=edge) (kW H C Q K g0 g1 g2 g3 (aZ a T z)) (aZ a T z)
 rw [ifS,Option.getD_some,if_neg (by
  rcases hr with hr | hr
  ·rw [hr.1,hr.2]; decide
  rw [hr,show ((12:Int) == 0)=false from rfl,Bool.false_and]; decide)]
 have hlp:=Us O F hk c2 (dL.1 c1) hz hwd
 generalize hv6:lq P edge (kW H C Q K g0 g1 g2 g3 (aZ a T z)) (aZ a T z) (0,12)=v6 at hec hlp
 generalize hbs:kW H C Q K g0 g1 g2 g3 (aZ a T z)=bs at l1 hec hlp
 refine jG _ (λi s=>s=(i:Int)) (λo=>o=some true) P.length ?_ ?_ _ rfl _ (by omega)
 ·rintro i _ hi9 rfl
  have hp:=(O.pts _ (getD_mem hi9)).1
  have hg:0<=(P.getD i default).1/\(P.getD i default).1<((bs.length:Nat):Int):=⟨hp.1,by rw [l1]; omega⟩
  obtain ⟨k1,k2⟩:=hec i hi9
  refine .inl ⟨_,?_,rfl⟩
  simp only [ae2,kK hi9,if_true,if_pos (iK hi9),Int.toNat_natCast,wS i (by omega)]
  rw [if_pos hg,if_pos (λ_=>hg)]
  have ek:((decide ((bs.getD (P.getD i default).1.toNat default).1>=(P.getD i default).2.1)) && (decide ((bs.getD (P.getD i default).1.toNat default).2<=(P.getD i default).2.2)))= !vK bs (P.getD i default):=by
   unfold vK
   rw [Bool.not_or, <- decide_not, <- decide_not]
   congr 1<;>(apply decide_eq_decide.2; omega)
  rw [ek,Bool.not_not]
  have cc:(((v6.2 == 12) || decide ((i:Int)<v6.1)) && vK bs (P.getD i default) || (((v6.2 == 0) && ((i:Int) == v6.1)) && !vK bs (P.getD i default)))=false:=by
   cases q1:((v6.2 == 12) || decide ((i:Int)<v6.1)) with
   | true=>rw [k1 q1]; cases q2:((v6.2 == 0) && ((i:Int) == v6.1)) with
    | true=>have:=k2 q2; rw [k1 q1] at this; cases this
    | false=>rfl
   | false=>cases q2:((v6.2 == 0) && ((i:Int) == v6.1)) with
    | true=>rw [k2 q2]; rfl
    | false=>rfl
  rw [cc,if_neg (by decide)]; rfl
 rintro _ rfl
 simp only [ae2,G7,Bool.false_eq_true,if_false]
 refine ⟨_,rfl,?_⟩
 rw [aey F,Option.bind_some]
 exact hlp
end Go.Proofs.YtnepigpnlnmlmaaGreatDoor

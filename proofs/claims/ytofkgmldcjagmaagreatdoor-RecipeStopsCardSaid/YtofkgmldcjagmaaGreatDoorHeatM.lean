/- A step of a state as a plain function: what it keeps, and that it is monotone. -/
import Derived.Test.YtofkgmldcjagmaaGreatDoorHeatR2
set_option linter.unusedVariables false
set_option linter.unusedSimpArgs false
namespace Go.Proofs.YtofkgmldcjagmaaGreatDoor
def qS (b:Int) (T:List (Int×Int)) (x y:Int):Int:=((b:Rat) / 1000*(pl T x - pl T y)).floor
def lossS (T law:List (Int×Int)) (e:Int):Int:=(pl law (pl T e)).floor
def mixL (b:Int) (T:List (Int×Int)):List Int→List Int
 | x::y::r=>(x - qS b T x y)::(y+qS b T x y)::mixL b T r
 | l=>l
def mixR (b:Int) (T:List (Int×Int)):List Int→List Int
 | x::r=>x::mixL b T r
 | []=>[]
def mixS (b:Int) (T:List (Int×Int)) (l:List Int):List Int:=mixR b T (mixL b T l)
def addL:List Int→List Int→List Int
 | x::l,y::m=>(x+y)::addL l m
 | l,_=>l
def subH (n:Int):List Int→List Int
 | x::l=>(x - n)::l
 | []=>[]
def hd (l:List Int):Int:=l.getD 0 default
def outS (b:Int) (T law:List (Int×Int)) (l p:List Int):List Int:=addL (subH (lossS T law (hd (mixS b T l))) (mixS b T l)) p
def leL:List Int→List Int→Prop
 | x::l,y::m=>x≤y∧leL l m
 | [],[]=>True
 | _,_=>False
theorem mixL_len (b T):∀ l:List Int,(mixL b T l).length=l.length
 | []=>rfl
 | [x]=>rfl
 | x::y::r=>by simp [mixL,mixL_len b T r]
theorem mixR_len (b T):∀ l:List Int,(mixR b T l).length=l.length
 | []=>rfl
 | x::r=>by simp [mixR,mixL_len b T r]
theorem mixS_len (b T l):(mixS b T l).length=l.length:=by unfold mixS; rw [mixR_len,mixL_len]
theorem subH_len (n):∀ l:List Int,(subH n l).length=l.length
 | []=>rfl
 | x::r=>by simp [subH]
theorem addL_len:∀ l p:List Int,(addL l p).length=l.length
 | [],_=>rfl
 | x::r,[]=>rfl
 | x::r,y::m=>by simp [addL,addL_len r m]
theorem outS_len (b T law l p):(outS b T law l p).length=l.length:=by unfold outS; rw [addL_len,subH_len,mixS_len]
theorem m_rng {b:Int} {T:List (Int×Int)} (hb:0≤b∧b≤500) (hT:Asc 1 T):0≤(b:Rat) / 1000∧(b:Rat) / 1000≤1 / 2:=by
 have h1:(0:Rat)≤b:=Rat.intCast_nonneg.2 hb.1
 have h2:(b:Rat)≤500:=by have:=Rat.intCast_le_intCast.2 hb.2; simpa using this
 grind
theorem q_pos {b:Int} {T:List (Int×Int)} (hb:0≤b∧b≤500) (hT:Asc 1 T) {x y:Int} (h:y≤x):0≤qS b T x y∧qS b T x y≤x - y:=by
 have hxy:(y:Rat)≤x:=Rat.intCast_le_intCast.2 h
 obtain ⟨l1,l2⟩:=lip (c:=1) (by decide) T y x hT hxy
 obtain ⟨m1,m2⟩:=m_rng hb hT
 unfold qS
 generalize (b:Rat) / 1000=m at*
 generalize pl T x=tx at*
 generalize pl T y=ty at*
 have e1:=Rat.mul_nonneg m1 l1
 have e2:=Rat.mul_nonneg (show 0≤1 - m by grind) l1
 constructor
 ·rw [Rat.le_floor_iff]; simpa using e1
 ·have h3:=Rat.floor_le (m*(tx - ty))
  rw [← Rat.intCast_le_intCast,Rat.intCast_sub]
  grind
theorem q_neg {b:Int} {T:List (Int×Int)} (hb:0≤b∧b≤500) (hT:Asc 1 T) {x y:Int} (h:x≤y):x - y≤qS b T x y∧qS b T x y≤0:=by
 have hxy:(x:Rat)≤y:=Rat.intCast_le_intCast.2 h
 obtain ⟨l1,l2⟩:=lip (c:=1) (by decide) T x y hT hxy
 obtain ⟨m1,m2⟩:=m_rng hb hT
 unfold qS
 generalize (b:Rat) / 1000=m at*
 generalize pl T x=tx at*
 generalize pl T y=ty at*
 have e1:=Rat.mul_nonneg m1 l1
 have e2:=Rat.mul_nonneg (show 0≤1 - m by grind) l1
 constructor
 ·rw [Rat.le_floor_iff,Rat.intCast_sub]; grind
 ·have h3:=Rat.floor_le (m*(tx - ty))
  rw [← Rat.intCast_le_intCast]
  have:((0:Int):Rat)=0:=rfl
  grind
theorem q_in {b:Int} {T:List (Int×Int)} (hb:0≤b∧b≤500) (hT:Asc 1 T) {x y u v:Int} (hx:u≤x∧x≤v) (hy:u≤y∧y≤v):(u≤x - qS b T x y∧x - qS b T x y≤v)∧(u≤y+qS b T x y∧y+qS b T x y≤v):=by
 rcases Int.le_total x y with h | h
 ·have:=q_neg hb hT h; omega
 ·have:=q_pos hb hT h; omega
theorem q_mono {b:Int} {T:List (Int×Int)} (hb:0≤b∧b≤500) (hT:Asc 1 T) {x y x' y':Int} (hx:x≤x') (hy:y≤y'):x - qS b T x y≤x' - qS b T x' y'∧y+qS b T x y≤y'+qS b T x' y':=by
 have hx':(x:Rat)≤x':=Rat.intCast_le_intCast.2 hx
 have hy':(y:Rat)≤y':=Rat.intCast_le_intCast.2 hy
 obtain ⟨l1,l2⟩:=lip (c:=1) (by decide) T x x' hT hx'
 obtain ⟨l3,l4⟩:=lip (c:=1) (by decide) T y y' hT hy'
 obtain ⟨m1,m2⟩:=m_rng hb hT
 unfold qS
 generalize (b:Rat) / 1000=m at*
 generalize pl T x=tx at*
 generalize pl T y=ty at*
 generalize pl T x'=tx' at*
 generalize pl T y'=ty' at*
 have e1:=Rat.mul_nonneg m1 l1
 have e2:=Rat.mul_nonneg (show 0≤1 - m by grind) l1
 have e3:=Rat.mul_nonneg m1 l3
 have e4:=Rat.mul_nonneg (show 0≤1 - m by grind) l3
 have f1:(m*(tx' - ty')).floor≤(m*(tx - ty)).floor+(x' - x):=by
  rw [← Rat.floor_add_intCast]
  refine Rat.floor_monotone ?_
  rw [Rat.intCast_sub]; grind
 have f2:(m*(tx - ty)).floor≤(m*(tx' - ty')).floor+(y' - y):=by
  rw [← Rat.floor_add_intCast]
  refine Rat.floor_monotone ?_
  rw [Rat.intCast_sub]; grind
 omega
theorem mixL_in {b:Int} {T:List (Int×Int)} (hb:0≤b∧b≤500) (hT:Asc 1 T) {u v:Int}:∀ l:List Int,(∀ x∈l,u≤x∧x≤v)→∀ x∈mixL b T l,u≤x∧x≤v
 | [],h=>h
 | [x],h=>h
 | x::y::r,h=>by
  have:=q_in hb hT (h x (by simp)) (h y (by simp))
  intro z hz
  simp only [mixL,List.mem_cons] at hz
  rcases hz with rfl | rfl | hz
  ·exact this.1
  ·exact this.2
  ·exact mixL_in hb hT r (fun w hw=>h w (by simp [hw])) z hz
theorem mixR_in {b:Int} {T:List (Int×Int)} (hb:0≤b∧b≤500) (hT:Asc 1 T) {u v:Int}:∀ l:List Int,(∀ x∈l,u≤x∧x≤v)→∀ x∈mixR b T l,u≤x∧x≤v
 | [],h=>h
 | x::r,h=>by
  intro z hz
  simp only [mixR,List.mem_cons] at hz
  rcases hz with rfl | hz
  ·exact h _ (by simp)
  ·exact mixL_in hb hT r (fun w hw=>h w (by simp [hw])) z hz
theorem mixS_in {b:Int} {T:List (Int×Int)} (hb:0≤b∧b≤500) (hT:Asc 1 T) {u v:Int} (l:List Int) (h:∀ x∈l,u≤x∧x≤v):∀ x∈mixS b T l,u≤x∧x≤v:=mixR_in hb hT _ (mixL_in hb hT l h)
theorem mixL_mono {b:Int} {T:List (Int×Int)} (hb:0≤b∧b≤500) (hT:Asc 1 T):∀ l m:List Int,leL l m→leL (mixL b T l) (mixL b T m)
 | [],[],_=>trivial
 | [],_::_,h=>h.elim
 | [x],[y],h=>h
 | [x],y::_::_,h=>h.2.elim
 | x::_::_,[y],h=>h.2.elim
 | x::y::r,[],h=>h.elim
 | [x],[],h=>h.elim
 | x::y::r,x'::y'::r',⟨h1,h2,h3⟩=>by
  have:=q_mono hb hT h1 h2
  exact ⟨this.1,this.2,mixL_mono hb hT r r' h3⟩
theorem mixR_mono {b:Int} {T:List (Int×Int)} (hb:0≤b∧b≤500) (hT:Asc 1 T):∀ l m:List Int,leL l m→leL (mixR b T l) (mixR b T m)
 | [],[],_=>trivial
 | [],_::_,h=>h.elim
 | _::_,[],h=>h.elim
 | x::r,y::r',⟨h1,h2⟩=>⟨h1,mixL_mono hb hT r r' h2⟩
theorem mixS_mono {b:Int} {T:List (Int×Int)} (hb:0≤b∧b≤500) (hT:Asc 1 T) (l m:List Int) (h:leL l m):leL (mixS b T l) (mixS b T m):=mixR_mono hb hT _ _ (mixL_mono hb hT l m h)
theorem addL_mono:∀ l m p q:List Int,leL l m→leL p q→leL (addL l p) (addL m q)
 | [],[],_,_,_,_=>trivial
 | [],_::_,_,_,h,_=>h.elim
 | _::_,[],_,_,h,_=>h.elim
 | x::l,y::m,[],[],h,_=>h
 | x::l,y::m,[],_::_,_,h=>h.elim
 | x::l,y::m,_::_,[],_,h=>h.elim
 | x::l,y::m,z::p,w::q,⟨h1,h2⟩,⟨h3,h4⟩=>⟨Int.add_le_add h1 h3,addL_mono l m p q h2 h4⟩
theorem loss_mono {T law law':List (Int×Int)} (hT:Asc 1 T) (hl:Asc (1 / 2) law) (ho:∀ x:Rat,pl law' x≤pl law x) {x y:Int} (h:x≤y):x - lossS T law x≤y - lossS T law' y:=by
 have hxy:(x:Rat)≤y:=Rat.intCast_le_intCast.2 h
 obtain ⟨l1,l2⟩:=lip (c:=1) (by decide) T x y hT hxy
 obtain ⟨l3,l4⟩:=lip (c:=1 / 2) (by grind) law (pl T x) (pl T y) hl (by grind)
 have ho':=ho (pl T y)
 unfold lossS
 have:(pl law' (pl T y)).floor≤(pl law (pl T x)).floor+(y - x):=by
  rw [← Rat.floor_add_intCast]
  refine Rat.floor_monotone ?_
  rw [Rat.intCast_sub]; grind
 omega
theorem outS_mono {b:Int} {T law law':List (Int×Int)} (hb:0≤b∧b≤500) (hT:Asc 1 T) (hl:Asc (1 / 2) law) (ho:∀ x:Rat,pl law' x≤pl law x) {l m p q:List Int} (h:leL l m) (hp:leL p q):leL (outS b T law l p) (outS b T law' m q):=by
 unfold outS
 have hm:=mixS_mono hb hT l m h
 refine addL_mono _ _ _ _ ?_ hp
 revert hm
 generalize mixS b T l=u
 generalize mixS b T m=v
 intro hm
 cases u with
 | nil=>cases v with
  | nil=>trivial
  | cons y v=>exact hm.elim
 | cons x u=>cases v with
  | nil=>exact hm.elim
  | cons y v=>exact ⟨loss_mono hT hl ho hm.1,hm.2⟩
theorem loss_in {T law:List (Int×Int)} (hl:Asc (1 / 2) law) (hr:∀ p∈law,0≤p.2∧p.2≤1000) (e:Int):0≤lossS T law e∧lossS T law e≤1000:=by
 unfold lossS
 by_cases h0:law=[]
 ·subst h0
  have e:(pl [] (pl T e)).floor=0:=Rat.floor_intCast 0
  rw [e]; exact ⟨by decide,by decide⟩
 ·obtain ⟨h1,h2⟩:=pl_rng (c:=1 / 2) law (pl T e) hl hr h0
  constructor
  ·rw [Rat.le_floor_iff]; exact h1
  ·have:=Rat.floor_monotone h2
   rwa [Rat.floor_intCast] at this
end Go.Proofs.YtofkgmldcjagmaaGreatDoor

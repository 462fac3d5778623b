import Derived.Test.YtnepigpnlnmlmaaGreatDoorAbsC
import Derived.OpenShut
import Derived.Deep.Slices
import Derived.RowKit
import Derived.ChangeSame
import Derived.ProofKit
import Derived.ChangeCalls
set_option linter.unusedVariables false
set_option linter.unusedSimpArgs false
namespace Go.dR
open Go.ChangeShapes Go.WideShapes Go.RowKit
inductive Sh where
 | int | bool | str
 | sl (e:List Sh)
 | Si (e:List Sh)
def pz (rec:TypeId->Option (List Sh)) (P:Program):Nat->List Field->Option (List Sh)
 | _,[]=>some []
 | o,f::r=>
  match rec f.type with
  | some l=>if f.offset=o/\P.cellsOf f.type=l.length then (pz rec P (o+l.length) r).map (l++ ·) else none
  | none=>none
def TA (rec:TypeId->Option (List Sh)) (P:Program) (t e:TypeId):Option (List Sh):=
 match P.underlying e with
 | some (.struct fs)=>
  match fs.toList.getLast? with
  | some f=>
   match pz rec P 0 fs.toList.dropLast with
   | some l=>if f.type=t/\f.offset=l.length/\P.cellsOf t=1/\P.cellsOf e=l.length+1 then some l else none
   | none=>none
  | none=>none
 | _=>none
theorem Ph {rec:TypeId->Option (List Sh)} {P:Program} {t e:TypeId} {l:List Sh} (h:TA rec P t e=some l) :
 ∃ fs f,P.underlying e=some (.struct fs)/\fs.toList.getLast? =some f/\pz rec P 0 fs.toList.dropLast=some l/\f.type=t/\f.offset=l.length/\P.cellsOf t=1/\P.cellsOf e=l.length+1:=by
 unfold TA at h
 split at h
 ·rename_i fs h1
  split at h
  ·rename_i f h2
   split at h
   ·rename_i l' h3
    split at h
    ·rename_i h4
     obtain rfl:=Option.some.inj h
     exact ⟨fs,f,h1,h2,h3,h4.1,h4.2.1,h4.2.2.1,h4.2.2.2⟩
    cases h
   cases h
  cases h
 cases h
def I9 {α:Type} (l:List α):Nat->List α
 | 0=>[]
 | n+1=>l++I9 l n
def zJ (P:Program):Nat->TypeId->Option (List Sh)
 | 0,_=>none
 | n+1,t=>
  match P.underlying t with
  | some (.int .i64)=>some [.int]
  | some .bool=>some [.bool]
  | some .string=>some [.str]
  | some (.slice e)=>
   match TA (zJ P n) P t e with
   | some l=>some [.Si l]
   | none=>
    match zJ P n e with
    | some l=>if P.cellsOf e=l.length/\0<l.length then some [.sl l] else none
    | none=>none
  | some (.struct fs)=>
   match pz (zJ P n) P 0 fs.toList with
   | some l=>if P.cellsOf t=l.length then some l else none
   | none=>none
  | some (.array k e)=>
   match zJ P n e with
   | some l=>if P.cellsOf e=l.length/\P.cellsOf t=(I9 l k).length then some (I9 l k) else none
   | none=>none
  | _=>none
def InI (n:Int):Prop:= -9223372036854775808<=n/\n<=9223372036854775807
inductive Dh:Sh->D->Prop
 | int (n) (h:InI n):Dh .int (.int .i64 n)
 | bool (b):Dh .bool (.bool b)
 | str (s) (h:s.size<=9223372036854775807):Dh .str (.str s)
 | sl (es n get) (h:∀ i,i<n->(get i).length=es.length) (h2:∀ i j sh,i<n->es[j]? =some sh->Dh sh ((get i).getD j .undef)) (h3:n<=9223372036854775807):Dh (.sl es) (.sl es.length n get)
 | Si (es n get) (h:∀ i,i<n->(get i).length=es.length+1) (h2:∀ i j sh,i<n->es[j]? =some sh->Dh sh ((get i).getD j .undef)) (h4:∀ i,i<n->Dh (.Si es) ((get i).getD es.length .undef)) (h3:n<=9223372036854775807):Dh (.Si es) (.sl (es.length+1) n get)
theorem azy {es:List Sh} {d:D} (h:Dh (.sl es) d):d.len<=9223372036854775807:=by
 generalize hs:Sh.sl es=sh at h
 cases h with
 | int n h=>cases hs
 | bool b=>cases hs
 | str s h=>cases hs
 | sl es' n get h1 h2 h3=>exact h3
 | Si es' n get h1 h2 h4 h3=>exact h3
theorem azz {n:Int} (h:Dh .int (.int .i64 n)):InI n:=by cases h; assumption
theorem azx {s:ByteArray} (h:Dh .str (.str s)):s.size<=9223372036854775807:=by cases h; assumption
theorem anm {d:D} (h:Dh .int d):∃ n:Int,d= .int .i64 n/\InI n:=by
 cases h with
 | int n h=>exact ⟨n,rfl,h⟩
theorem anl {d:D} (h:Dh .str d):∃ s:ByteArray,d= .str s/\s.size<=9223372036854775807:=by
 cases h with
 | str s h=>exact ⟨s,rfl,h⟩
theorem oZ {α:Type} [Inhabited α] (g:List D->α) (x:D) {i:Nat} (h:i<x.len):(aN g x).getD i default=g (x.nth i):=by
 have hl:i<(aN g x).length:=by rw [dZ]; exact h
 rw [List.getD_eq_getElem?_getD,List.getElem?_eq_getElem hl]
 simp [aN]
def iO (w:World) (IK:List Sh) (cs:List Value):Prop:=
 cs.length=IK.length/\∀ (j:Nat) (sh:Sh) (c:Value),IK[j]? =some sh->cs[j]? =some c->∃ d,Dh sh d/\RD w (λB=>B<w.heap.size) d c
theorem iO.append {w:World} {l r:List Sh} {cs ds:List Value} (h:iO w l cs) (k:iO w r ds):iO w (l++r) (cs++ds):=by
 refine ⟨by simp [h.1,k.1],λj sh c h1 h2=> ?_⟩
 by_cases hj:j<l.length
 ·rw [List.getElem?_append_left hj] at h1
  rw [List.getElem?_append_left (by rw [h.1]; exact hj)] at h2
  exact h.2 j sh c h1 h2
 rw [List.getElem?_append_right (by omega)] at h1
 rw [List.getElem?_append_right (by rw [h.1]; omega),h.1] at h2
 exact k.2 _ sh c h1 h2
section
variable {H:Type} {enc:TypeId×Value->H} {P:Program} {w:World} {base:Nat} {spare:Nat->Bool} {held:Bool}
theorem aat {w:World} {base:Nat} {a:Addr} {n:Nat} {cs:List Value} (h:w.cells? base a n=some cs):cs.length=n/\∀ j,j<n->w.cell? (a.add j)=some (cs.getD j undef):=by
 unfold World.cells? at h
 split at h
 ·have h1:=mapM_some_length h
  refine ⟨by simpa using h1,λj hj=> ?_⟩
  have:=mapM_some_get h j j (by simp [hj])
  rw [this]
  have hl:j<cs.length:=by rw [h1]; simpa using hj
  simp [List.getD_eq_getElem?_getD,hl]
 cases h
theorem BM {n:Nat} (ih:∀ t IK,zJ P n t=some IK->∀ fuel cs x,DataW.trod enc P w base spare held fuel t cs=some x->iO w IK cs) {fuel:Nat} {cs:List Value} :
 ∀ (fs:List Field) (o:Nat) (IK:List Sh),pz (zJ P n) P o fs=some IK->(∀ f∈fs,∃ y,DataW.trod enc P w base spare held fuel f.type ((cs.drop f.offset).take (P.cellsOf f.type))=some y)->
  iO w IK ((cs.drop o).take IK.length)
 | [],o,IK,h,_=>by obtain rfl:=Option.some.inj h; exact ⟨by simp,λj sh c h1=>by simp at h1⟩
 | f::r,o,IK,h,hf=>by
  simp only [pz] at h
  split at h
  ·rename_i l hl
   split at h
   ·rename_i hc
    obtain ⟨c1,c2⟩:=hc
    simp only [Option.map_eq_some_iff] at h
    obtain ⟨q,hq,rfl⟩:=h
    obtain ⟨y,hy⟩:=hf f (by simp)
    have g1:=ih _ _ hl _ _ _ hy
    rw [c1,c2] at g1
    have g2:=BM ih r (o+l.length) q hq (λf hf'=>hf f (by simp [hf']))
    have e:(cs.drop o).take (l++q).length=(cs.drop o).take l.length++(cs.drop (o+l.length)).take q.length:=by
     rw [List.length_append,List.take_add,List.drop_drop]
    rw [e]
    exact g1.append g2
   cases h
  cases h
theorem afb {n:Nat} (ih:∀ t IK,zJ P n t=some IK->∀ fuel cs x,DataW.trod enc P w base spare held fuel t cs=some x->iO w IK cs) {fuel:Nat} {cs:List Value} {e:TypeId} {l:List Sh} (hl:zJ P n e=some l) (c1:P.cellsOf e=l.length) {k:Nat}
 (hf:∀ i,i<k->∃ y,DataW.trod enc P w base spare held fuel e ((cs.drop (i*P.cellsOf e)).take (P.cellsOf e))=some y):∀ (q i:Nat),i+q=k->iO w (I9 l q) ((cs.drop (i*l.length)).take (I9 l q).length)
 | 0,i,_=>⟨by simp [I9],λj sh c h1=>by simp [I9] at h1⟩
 | q+1,i,h=>by
  obtain ⟨y,hy⟩:=hf i (by omega)
  have g1:=ih _ _ hl _ _ _ hy
  rw [c1] at g1
  have g2:=afb ih hl c1 hf q (i+1) (by omega)
  have e:(cs.drop (i*l.length)).take (I9 l (q+1)).length=(cs.drop (i*l.length)).take l.length++(cs.drop ((i+1)*l.length)).take (I9 l q).length:=by
   rw [I9,List.length_append,List.take_add,List.drop_drop,Nat.add_mul,Nat.one_mul]
  rw [e]
  exact g1.append g2
theorem iO.one {w:World} {sh:Sh} {d:D} {v:Value} (h1:Dh sh d) (h2:RD w (λB=>B<w.heap.size) d v):iO w [sh] [v]:=by
 refine ⟨rfl,λj s c g1 g2=> ?_⟩
 have:j=0:=by have:=(List.getElem?_eq_some_iff.1 g1).1; simp at this; omega
 subst this
 obtain rfl:sh=s:=by simpa using g1
 obtain rfl:v=c:=by simpa using g2
 exact ⟨d,h1,h2⟩
theorem Xu {t e:TypeId} {fuel:Nat} {cs:List Value} {x:DataW H×List MemPlace} (hu:P.underlying t=some (.slice e)) (h:DataW.trod enc P w base spare held fuel t cs=some x) :
 cs=[.slice none 0 0]\/∃ (a:Addr) (len cap n:Nat),fuel=n+1/\cs=[.slice (some a) len cap]/\len<=cap/\cap<=maxLen/\
  ∀ i,i<len->∃ cs' y,w.cells? base (a.add (i*P.cellsOf e)) (P.cellsOf e)=some cs'/\DataW.trod enc P w base spare held n e cs'=some y:=by
 rcases DataW.trod_slice hu h with h0 | ⟨a,len,cap,elems,rest,n,hn,hcs,_,_,hl,hm,hlen,hel,_,_⟩
 ·exact .inl h0.1
 refine .inr ⟨a,len,cap,n,hn,hcs,hl,hm,λi hi=> ?_⟩
 have h1:=hel i hi
 rw [List.getElem?_eq_getElem (by omega:i<elems.length)] at h1
 obtain ⟨cs',k1,k2⟩:=Option.bind_eq_some_iff.1 h1
 exact ⟨cs',_,k1,k2⟩
theorem O9 {l:List Sh} {a:Addr} {len cap:Nat} (c2:0<l.length) (hlc:len<=cap) (hcm:cap<=maxLen) (hel:∀ i,i<len->∃ cs',w.cells? base (a.add (i*l.length)) l.length=some cs'/\iO w l cs') :
 ∃ get:Nat->List D,(∀ i,i<len->(get i).length=l.length)/\(∀ i j sh,i<len->l[j]? =some sh->Dh sh ((get i).getD j .undef))/\len<=9223372036854775807/\RD w (λB=>B<w.heap.size) (.sl l.length len get) (.slice (some a) len cap):=by
 have hmax:len<=9223372036854775807:=by simp only [maxLen] at hcm; omega
 rcases Nat.eq_zero_or_pos len with h0 | hpos
 ·subst h0
  exact ⟨λ_=>[],λi hi=>absurd hi (by omega),λi _ _ hi=>absurd hi (by omega),by omega,.sl0 _ _ _ _⟩
 have aDP:∀ i,i<len->∃ ds:List D,ds.length=l.length/\∀ j,j<l.length->∃ u,w.cell? ((a.add (i*l.length)).add j)=some u/\RD w (λB=>B<w.heap.size) (ds.getD j .undef) u/\∀ sh,l[j]? =some sh->Dh sh (ds.getD j .undef):=by
  intro i hi
  obtain ⟨cs',h1,h2⟩:=hel i (by omega)
  obtain ⟨g1,g2⟩:=h2
  obtain ⟨k1,k2⟩:=aat h1
  have hex:∀ j,j<l.length->∃ d:D,RD w (λB=>B<w.heap.size) d (cs'.getD j undef)/\∀ sh,l[j]? =some sh->Dh sh d:=by
   intro j hj
   obtain ⟨d,d1,d2⟩:=g2 j (l[j]) (cs'[j]'(by omega)) (by simp [hj]) (by simp [show j<cs'.length by omega])
   refine ⟨d,?_,λsh hsh=> ?_⟩
   ·have:cs'.getD j undef=cs'[j]'(by omega):=by simp [List.getD_eq_getElem?_getD,show j<cs'.length by omega]
    rw [this]; exact d2
   have:sh=l[j]:=by simpa [hj] using hsh.symm
   rw [this]; exact d1
  obtain ⟨f,hf⟩:=Deep.choose_lt hex
  refine ⟨(List.range l.length).map f,by simp,λj hj=>⟨_,k2 j hj,?_,λsh hsh=> ?_⟩⟩
  ·have:((List.range l.length).map f).getD j .undef=f j:=by simp [List.getD_eq_getElem?_getD,hj]
   rw [this]; exact (hf j hj).1
  have:((List.range l.length).map f).getD j .undef=f j:=by simp [List.getD_eq_getElem?_getD,hj]
  rw [this]; exact (hf j hj).2 sh hsh
 obtain ⟨get,hget⟩:=Deep.choose_lt aDP
 have hspot:a=⟨a.block,a.off,none⟩:=by
  obtain ⟨u,hu,_⟩:=(hget 0 hpos).2 0 c2
  rw [Nat.zero_mul] at hu
  have e0:(a.add 0).add 0=a:=by simp [Addr.add]
  rw [e0] at hu
  obtain ⟨B,o,s⟩:=a
  cases s with
  | none=>rfl
  | some s=>simp only [World.cell?] at hu; split at hu<;>simp at hu
 have adG:a.block<w.heap.size:=by
  obtain ⟨u,hu,_⟩:=(hget 0 hpos).2 0 c2
  rw [Nat.zero_mul] at hu
  have e0:(a.add 0).add 0=a:=by simp [Addr.add]
  rw [e0] at hu
  simp only [World.cell?] at hu
  split at hu
  ·rename_i hh; exact (Array.getElem?_eq_some_iff.1 hh).1
  cases hu
 have ai7:∀ i j,(a.add (i*l.length)).add j=⟨a.block,a.off+(i*l.length+j),none⟩:=by
  intro i j
  rw [hspot]
  generalize l.length=sz
  simp only [Addr.add]
  by_cases h1:i*sz=0
  ·by_cases h2:j=0
   ·simp [h1,h2]
   simp [h1,h2]
  by_cases h2:j=0
  ·simp [h1,h2]
  simp only [h1,h2,if_false,Addr.mk.injEq,true_and,and_true]; omega
 refine ⟨get,λi hi=>(hget i hi).1,λi j sh hi hsh=> ?_,hmax,?_⟩
 ·have hj:=(List.getElem?_eq_some_iff.1 hsh).1
  obtain ⟨u,_,_,h3⟩:=(hget i hi).2 j hj
  exact h3 sh hsh
 rw [hspot]
 refine .sl l.length len get a.block a.off cap (λi j=>(w.cell? ⟨a.block,a.off+(i*l.length+j),none⟩).getD undef) hpos hlc adG adG (λi hi=>(hget i hi).1) (λi j hi hj=> ?_) (λi j hi hj=> ?_)
 ·obtain ⟨u,h1,_⟩:=(hget i hi).2 j hj
  rw [ai7] at h1
  rw [h1]; rfl
 obtain ⟨u,h1,h2,_⟩:=(hget i hi).2 j hj
 rw [ai7] at h1
 rw [h1]; exact h2
theorem Zt {n:Nat} (ih:∀ t IK,zJ P n t=some IK->∀ fuel cs x,DataW.trod enc P w base spare held fuel t cs=some x->iO w IK cs) {t e:TypeId} {fs:Array Field} {f:Field} {l:List Sh}
 (hu:P.underlying t=some (.slice e)) (he:P.underlying e=some (.struct fs)) (hf:fs.toList.getLast? =some f) (hft:f.type=t) (hl:pz (zJ P n) P 0 fs.toList.dropLast=some l)
 (h1:f.offset=l.length) (h2:P.cellsOf t=1) (h3:P.cellsOf e=l.length+1) (fuel:Nat):∀ cs x,DataW.trod enc P w base spare held fuel t cs=some x->iO w [.Si l] cs:=by
 induction fuel using Nat.strongRecOn with
 | ind fuel IH=>
  intro cs x h
  rcases Xu hu h with rfl | ⟨a,len,cap,m,rfl,rfl,hlc,hcm,hel⟩
  ·exact iO.one (.Si l 0 (λ_=>[]) (λi hi=>absurd hi (by omega)) (λi _ _ hi=>absurd hi (by omega)) (λi hi=>absurd hi (by omega)) (by omega)) (.sl0 _ _ _ _)
  have hlen':(l++[Sh.Si l]).length=l.length+1:=by simp
  obtain ⟨get,g1,g2,g3,g4⟩:=O9 (base:=base) (l:=l++[.Si l]) (by simp) hlc hcm (λi hi=>by
   obtain ⟨cs',y,k1,k2⟩:=hel i hi
   rw [h3] at k1
   rw [hlen']
   refine ⟨cs',k1,?_⟩
   obtain ⟨xs,q,rfl,_,hcl,hxs,hall⟩:=DataW.trod_struct he k2
   have hat:∀ (i:Nat) (f:Field),fs.toList[i]? =some f->∃ y,DataW.trod enc P w base spare held q f.type ((cs'.drop f.offset).take (P.cellsOf f.type))=some y:=λi f hi=>by
    have hi':fs[i]? =some f:=by rw [<- Array.getElem?_toList]; exact hi
    have hlt:i<xs.length:=by rw [hxs]; exact (Array.getElem?_eq_some_iff.1 hi').1
    exact ⟨xs[i],by rw [hall i f hi']; simp [hlt]⟩
   have q1:=BM (cs:=cs') (fuel:=q) ih fs.toList.dropLast 0 _ hl (λf hf=>by
    obtain ⟨i,hi⟩:=List.mem_iff_getElem?.1 ((List.dropLast_sublist _).subset hf)
    exact hat i f hi)
   obtain ⟨y',hy'⟩:=hat (fs.toList.length - 1) f (by rw [<- List.getLast?_eq_getElem?]; exact hf)
   rw [hft,h1,h2] at hy'
   have q2:=IH q (by omega) _ _ hy'
   have e:cs'=(cs'.drop 0).take l.length++(cs'.drop l.length).take 1:=by
    rw [List.drop_zero]
    have:(cs'.drop l.length).take 1=cs'.drop l.length:=List.take_of_length_le (by rw [List.length_drop]; omega)
    rw [this,List.take_append_drop]
   rw [e]
   exact q1.append q2)
  rw [hlen'] at g4
  refine iO.one (.Si l len get (λi hi=>by rw [g1 i hi,hlen']) (λi j sh hi hj=>g2 i j sh hi ?_) (λi hi=>g2 i l.length _ hi (by simp)) g3) g4
  rw [List.getElem?_append_left (List.getElem?_eq_some_iff.1 hj).1]; exact hj
theorem yD:∀ (n:Nat) (t:TypeId) (IK:List Sh),zJ P n t=some IK->∀ fuel cs x,DataW.trod enc P w base spare held fuel t cs=some x->iO w IK cs
 | 0,t,IK,h,_,_,_,_=>by cases h
 | n+1,t,IK,h,fuel,cs,x,ht=>by
  have ih:=yD n
  simp only [zJ] at h
  split at h
  ·rename_i hu
   obtain rfl:=Option.some.inj h
   obtain ⟨k,rfl,_,hk⟩:=DataW.trod_int hu ht
   have hk2:InI k:=by
    have h8:IntKind.i64.min= -9223372036854775808:=by decide
    have h9:IntKind.i64.max=9223372036854775807:=by decide
    simp only [Lit.wf,Bool.and_eq_true,decide_eq_true_eq] at hk
    exact ⟨by omega,by omega⟩
   refine ⟨rfl,λj sh c h1 h2=> ?_⟩
   have:j=0:=by have:=(List.getElem?_eq_some_iff.1 h1).1; simp at this; omega
   subst this
   obtain rfl:Sh.int=sh:=by simpa using h1
   obtain rfl:Value.int .i64 k=c:=by simpa using h2
   exact ⟨_,.int k hk2,.int _ _⟩
  ·rename_i hu
   obtain rfl:=Option.some.inj h
   obtain ⟨b,rfl,_⟩:=DataW.trod_bool hu ht
   refine ⟨rfl,λj sh c h1 h2=> ?_⟩
   have:j=0:=by have:=(List.getElem?_eq_some_iff.1 h1).1; simp at this; omega
   subst this
   obtain rfl:Sh.bool=sh:=by simpa using h1
   obtain rfl:Value.bool b=c:=by simpa using h2
   exact ⟨_,.bool b,.bool _⟩
  ·rename_i hu
   obtain rfl:=Option.some.inj h
   obtain ⟨z,rfl,_,hz⟩:=DataW.trod_string hu ht
   refine ⟨rfl,λj sh c h1 h2=> ?_⟩
   have:j=0:=by have:=(List.getElem?_eq_some_iff.1 h1).1; simp at this; omega
   subst this
   obtain rfl:Sh.str=sh:=by simpa using h1
   obtain rfl:Value.string z=c:=by simpa using h2
   exact ⟨_,.str z (by simp only [maxLen] at hz; omega),.str _⟩
  ·rename_i e hu
   split at h
   ·rename_i l hl
    obtain rfl:=Option.some.inj h
    obtain ⟨fs,f,h1,h2,h3,h4,h5,h6,h7⟩:=Ph hl
    exact Zt ih hu h1 h2 h4 h3 h5 h6 h7 fuel cs x ht
   split at h
   ·rename_i l hl
    split at h
    ·rename_i hc
     obtain ⟨c1,c2⟩:=hc
     obtain rfl:=Option.some.inj h
     rcases Xu hu ht with rfl | ⟨a,len,cap,m,rfl,rfl,hlc,hcm,hel⟩
     ·exact iO.one (.sl l 0 (λ_=>[]) (λi hi=>absurd hi (by omega)) (λi _ _ hi=>absurd hi (by omega)) (by omega)) (.sl0 _ _ _ _)
     obtain ⟨get,g1,g2,g3,g4⟩:=O9 (base:=base) c2 hlc hcm (λi hi=>by
      obtain ⟨cs',y,k1,k2⟩:=hel i hi
      rw [c1] at k1
      exact ⟨cs',k1,ih _ _ hl _ _ _ k2⟩)
     exact iO.one (.sl l len get g1 g2 g3) g4
    cases h
   cases h
  ·rename_i fs hu
   split at h
   ·rename_i l hl
    split at h
    ·rename_i hc
     obtain rfl:=Option.some.inj h
     obtain ⟨xs,q,rfl,_,hlen,hxs,hall⟩:=DataW.trod_struct hu ht
     have h2:=BM (cs:=cs) (fuel:=q) ih fs.toList 0 _ hl (λf hf=>by
      obtain ⟨i,hi⟩:=List.mem_iff_getElem?.1 hf
      have hi':fs[i]? =some f:=by rw [<- Array.getElem?_toList]; exact hi
      have hlt:i<xs.length:=by rw [hxs]; exact (Array.getElem?_eq_some_iff.1 hi').1
      exact ⟨xs[i],by rw [hall i f hi']; simp [hlt]⟩)
     rw [List.drop_zero, <- hc, <- hlen,List.take_length] at h2
     exact h2
    cases h
   cases h
  ·rename_i k e hu
   split at h
   ·rename_i l hl
    split at h
    ·rename_i hc
     obtain rfl:=Option.some.inj h
     obtain ⟨xs,q,rfl,_,hlen,hxs,hall⟩:=DataW.trod_array hu ht
     have h2:=afb (cs:=cs) (fuel:=q) ih hl hc.1 (k:=k) (λi hi=>⟨xs[i]'(by omega),by rw [hall i hi]; simp [show i<xs.length by omega]⟩) k 0 (by omega)
     rw [Nat.zero_mul,List.drop_zero, <- hc.2, <- hlen,List.take_length] at h2
     exact h2
    cases h
   cases h
  cases h
inductive ASh where
 | c (s:Sh)
 | agg (l:List Sh)
def ajB (P:Program) (t:TypeId):ASh->Prop
 | .c s=>zJ P 9 t=some [s]/\(match P.underlying t with | some (.struct _)=>False | some (.array _ _)=>False | _=>True)
 | .agg l=>zJ P 9 t=some l/\(match P.underlying t with | some (.struct _)=>True | some (.array _ _)=>True | _=>False)
def OB (P:Program):List TypeId->List ASh->Prop
 | [],[]=>True
 | t::ts,a::as=>ajB P t a/\OB P ts as
 | _,_=>False
def ajp:ASh->Arg->Prop
 | .c s,.c d=>Dh s d
 | .agg l,.agg ds=>ds.length=l.length/\∀ (j:Nat) (sh:Sh),l[j]? =some sh->Dh sh (ds.getD j .undef)
 | _,_=>False
def Oq:List ASh->List Arg->Prop
 | [],[]=>True
 | a::as,x::xs=>ajp a x/\Oq as xs
 | _,_=>False
theorem abB {w:World} {S:Nat->Prop} {own:Nat->Option Nat} {v:Value} {b:Bool} (h:RQ w S own [.c (.d (.bool b))] v):v= .bool b:=by
 have h2:RD w S (.bool b) v:=h.1
 cases h2; rfl
theorem open_arg {t:TypeId} {v:Value} {d:DataW H} {ps:List MemPlace} {a:ASh} (ha:ajB P t a) (hval:Value.okWide P w .any base t v) (h:DataW.Trod enc P w 0 spare held t v d ps):∃ x,Ov w (λB=>B<w.heap.size) x v/\ajp a x:=by
 obtain ⟨fuel,hf⟩:=h
 cases a with
 | c s=>
  obtain ⟨h1,h2⟩:=ha
  obtain ⟨g1,g2⟩:=yD 9 t _ h1 _ _ _ hf
  have hone:v.cells.toList=[v]:=by
   unfold Value.okWide at hval
   split at hval
   ·rename_i hu; rw [hu] at h2; exact h2.elim
   ·rename_i hu; rw [hu] at h2; exact h2.elim
   cases v<;>first | rfl | (exfalso; unfold Cell.okWide at hval; split at hval<;>simp_all [Cell.ok])
  rw [hone] at g2
  obtain ⟨x,x1,x2⟩:=g2 0 s v rfl rfl
  exact ⟨.c x,x2,x1⟩
 | agg l=>
  obtain ⟨h1,h2⟩:=ha
  obtain ⟨g1,g2⟩:=yD 9 t _ h1 _ _ _ hf
  have hagg:∃ cs,v= .agg cs:=by
   unfold Value.okWide at hval
   split at hval
   ·obtain ⟨cs,h,_⟩:=hval; exact ⟨cs,h⟩
   ·obtain ⟨cs,h,_⟩:=hval; exact ⟨cs,h⟩
   rename_i h3 h4
   split at h2
   ·rename_i hu; exact absurd hu (h3 _)
   ·rename_i hu; exact absurd hu (h4 _ _)
   exact h2.elim
  obtain ⟨cs,rfl⟩:=hagg
  have hc:(Value.agg cs).cells=cs:=rfl
  rw [hc] at g1 g2
  have hex:∀ j,j<l.length->∃ d:D,(∀ sh,l[j]? =some sh->Dh sh d)/\∀ c,cs[j]? =some c->RD w (λB=>B<w.heap.size) d c:=by
   intro j hj
   have hj2:j<cs.size:=by rw [<- Array.length_toList,g1]; exact hj
   obtain ⟨d,d1,d2⟩:=g2 j (l[j]) (cs[j]) (by simp [hj]) (by simp [hj2])
   refine ⟨d,λsh hsh=> ?_,λc hc=> ?_⟩
   ·have:sh=l[j]:=by simpa [hj] using hsh.symm
    rw [this]; exact d1
   have:c=cs[j]:=by simpa [hj2] using hc.symm
   rw [this]; exact d2
  obtain ⟨f,hf⟩:=Deep.choose_lt hex
  refine ⟨.agg ((List.range l.length).map f),⟨cs,rfl,by rw [<- Array.length_toList,g1]; simp,λi hi=> ?_⟩,by simp,λj sh hsh=> ?_⟩
  ·simp only [List.length_map,List.length_range] at hi
   have hi2:i<cs.size:=by rw [<- Array.length_toList,g1]; exact hi
   refine ⟨cs[i],by simp [hi2],?_⟩
   have:((List.range l.length).map f).getD i .undef=f i:=by simp [List.getD_eq_getElem?_getD,hi]
   rw [this]; exact (hf i hi).2 _ (by simp [hi2])
  have hj:=(List.getElem?_eq_some_iff.1 hsh).1
  have:((List.range l.length).map f).getD j .undef=f j:=by simp [List.getD_eq_getElem?_getD,hj]
  rw [this]; exact (hf j hj).1 sh hsh
theorem JW:∀ {ts:List TypeId} {as:List ASh} {vs:List Value} {ds:List (DataW H)} {ps:List MemPlace},OB P ts as->(∀ (j:Nat) t v,ts[j]? =some t->vs[j]? =some v->Value.okWide P w .any base t v)->
 DataW.TrodAll enc P w 0 spare held ts vs ds ps->∃ xs,jH w (λB=>B<w.heap.size) xs vs/\Oq as xs
 | [],[],vs,ds,ps,_,_,h=>by
  obtain ⟨rfl,rfl,rfl⟩:=trodAll_nil h
  exact ⟨[],trivial,trivial⟩
 | [],_::_,_,_,_,h,_,_=>h.elim
 | _::_,[],_,_,_,h,_,_=>h.elim
 | t::ts,a::as,vs,ds,ps,h,hval,hT=>by
  obtain ⟨v,vs1,d,ds1,p,q,rfl,rfl,rfl,h1,h2⟩:=trodAll_cons hT
  obtain ⟨x,x1,x2⟩:=open_arg h.1 (hval 0 t v rfl rfl) h1
  obtain ⟨xs,y1,y2⟩:=JW h.2 (λj t v e1 e2=>hval (j+1) t v (by simpa using e1) (by simpa using e2)) h2
  exact ⟨x::xs,⟨x1,y1⟩,⟨x2,y2⟩⟩
theorem xC (hl:laidOutB P=true) {W W':World} {sp:Nat->Bool}:∀ {ts:List TypeId} {vs:List Value} {ds:List (DataW H)} {ps:List MemPlace},(∀ t∈ts,P.readableRec t=true/\t<P.types.size)->
 DataW.TrodAll enc P W 0 (λ_=>true) true ts vs ds ps->(∀ p∈ps,W.sameAt W' p)->(∀ p∈ps,sp p.block=true)->DataW.TrodAll enc P W' 0 sp true ts vs ds ps
 | [],vs,ds,ps,_,h,_,_=>by
  obtain ⟨rfl,rfl,rfl⟩:=trodAll_nil h
  exact trodAll_mk0
 | t::ts,vs,ds,ps,hr,h,h1,h2=>by
  obtain ⟨v,vs1,d,ds1,p,q,rfl,rfl,rfl,g1,g2⟩:=trodAll_cons h
  refine trodAll_cons_mk ?_ (xC hl (λt ht=>hr t (by simp [ht])) g2 (λp hp=>h1 p (by simp [hp])) (λp hp=>h2 p (by simp [hp])))
  exact WideElems.Trod_stays hl (hr t (by simp)).1 (hr t (by simp)).2 g1 (λp hp=>h1 p (by simp [hp])) (λp hp=>h2 p (by simp [hp]))
theorem ac0 {f:Nat} {fn:Func} {sp:fO} {as:List ASh} {s:ChangeSpec} {tb:TypeId} (hsh:OB P fn.params.toList as) (hv:Valid P f sp) (hpre:∀ xs,Oq as xs->sp.pre xs/\sp.res xs=[.c (.d (.bool true))])
 (hvars:s.vars=[]) (hfn:∀ ds:List (DataW H),ds.length=fn.params.toList.length->(s.fn H (ds++[])).results=[.lit (.bool true)]/\(s.fn H (ds++[])).args=ds/\(s.fn H (ds++[])).vars=[])
 (hrt:fn.resultTypes= #[tb]) (hb:P.underlying tb=some .bool) (hl:laidOutB P=true) (hread:∀ t∈fn.params.toList,P.readableRec t=true/\t<P.types.size)
 {W:World} {args:Array Value} {ds gs:List (DataW H)} {before:List MemPlace} (adB:uw W) (hval:∀ (j:Nat) t v,fn.params[j]? =some t->args[j]? =some v->Value.okWide P W .any base t v)
 (hW:DataW.Whole enc P fn.params.toList s.vars false W args.toList ds gs before) :
 Calls P f args W λe W'=>∃ v,e= .returned v/\s.post enc P fn false true false false W args v W':=by
 have hW0:=hW
 have hlt:∀ p∈before,p.block<W.heap.size:=λp hp=>hW.lt p hp
 obtain ⟨p,q,hA,hV,rfl,hfz,hnd⟩:=hW
 rw [hvars] at hV
 obtain ⟨rfl,rfl⟩:=trodVars_none hV
 rw [List.append_nil] at hfz hlt hW0
 obtain ⟨xs,R,wf⟩:=JW hsh (λj t v e1 e2=>hval j t v (by rw [<- Array.getElem?_toList]; exact e1) (by rw [<- Array.getElem?_toList]; exact e2)) hA
 obtain ⟨hp,hres⟩:=hpre xs wf
 refine (hv (λB=>B<W.heap.size) W xs args adB (λ_ h=>h) R hp).mono ?_
 rintro e W' ⟨v,rfl,hL⟩
 obtain ⟨own,_,_,hr⟩:=hL.res
 rw [hres] at hr
 have hvt:v= .bool true:=abB hr
 subst hvt
 have hbelow:Below W.heap.size W W':=⟨hL.env.1,hL.env.2.1,hL.env.2.2,hL.size,hL.old⟩
 have hlen:=(Go.trodAll_length hA).2
 obtain ⟨k1,k2,k3⟩:=hfn ds hlen
 have hargs:∀ sp':Nat->Bool,(∀ x∈p,sp' x.block=true)->DataW.TrodAll enc P W' 0 sp' true fn.params.toList args.toList ds p:=λsp' h=>xC hl hread hA (λx hx=>hbelow.same (hlt x hx)) h
 have hrest:∀ (b:Nat) (sp:Nat->Bool) (hd:Bool),DataW.TrodAll enc P W' b sp hd fn.resultTypes.toList ((Value.bool true).resultList fn.resultTypes.size) [.lit (.bool true)] []:=by
  intro b sp hd
  rw [hrt]
  exact trodAll_cons_mk (shut_bool hb _) trodAll_mk0
 have hvar:∀ sp:Nat->Bool,DataW.TrodVars enc P W' sp s.vars [] []:=by intro sp; rw [hvars]; exact rfl
 refine ⟨_,rfl,ds,[],p,[],p,[],hW0,by rw [k1]; exact hrest _ _ _,by rw [k2]; exact hargs _ (λx hx=>by simpa using hlt x hx),by rw [k3]; exact hvar _,World.keptBut_mono (λx hx=>⟨hx,?_⟩) (hbelow.frame _),λ_=> ?_⟩
 ·exact Or.inr (by simpa using hx)
 refine ⟨ok_one hrt rfl (okWide_bool_mk hb _),_,_,([]++p)++[],⟨[]++p,[],trodAll_append (hargs _ (λ_ _=>rfl)) (hrest _ _ _),hvar _,rfl,?_,λh=>by cases h⟩,?_⟩
 ·intro b off hx
  have hx':MemPlace.cell b off∈p:=by simpa using hx
  have hbl:b<W.heap.size:=hlt _ hx'
  rw [hbelow.frozen hbl]
  exact hfz b off hx'
 intro x hx _
 simpa using hx
end
end Go.dR

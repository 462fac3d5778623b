import Derived.Test.YtnepigpnlnmlmaaGreatDoorAbsA
import Derived.Laws.Tables
import Derived.Great.BuildSlice
import Derived.Laws.BytesString
import Derived.MapKept
import Derived.Laws.Small
import Derived.RangeFuncNested
set_option linter.unusedVariables false
set_option linter.unusedSimpArgs false
namespace Go.dR
section
variable {P:Program} {ty:iT} {cx:Cx} {st:St} {m m':Mp} {a:Act} {w w':World} {o:Oper} {out:Out}
theorem Gj {t:Nat} {i:TI} {lb:Nat->Option fE} (h:aI P t i) {off:Nat} {l:List AC} {vs:Array Value} (hsz:vs.size=l.length)
 (hc:∀ j,j<l.length->∃ u,vs[j]? =some u/\fD cx m w lb (l.getD j .undef) u) (aY:((iF i off l).run st).nO) :
 ∃ v,(part t vs off).run P w= .ok v w/\RA cx m w lb ((iF i off l).run st).dst v/\((iF i off l).run st).wr=[]:=by
 unfold iF at*
 split at aY
 ·rename_i ha
  simp only [ha,if_true,Rd.run] at aY ⊢
  refine ⟨.agg (vs.extract off (off+i.size)),by simp [part,h.Et,ha,h.kX],⟨_,rfl,by simp; omega,λj hj=> ?_⟩,by trivial⟩
  simp only [List.length_take,List.length_drop] at hj
  obtain ⟨u,hu,hr⟩:=hc (off+j) (by omega)
  refine ⟨u,by rw [Array.getElem?_extract,if_pos (by omega)]; exact hu,?_⟩
  have:((l.drop off).take i.size).getD j .undef=l.getD (off+j) .undef:=by
   simp [List.getD_eq_getElem?_getD,show j<i.size by omega,List.getElem?_drop]
  rw [this]; exact hr
 rename_i ha
 simp only [ha,Rd.run] at aY ⊢
 obtain ⟨u,hu,hr⟩:=hc off aY
 exact ⟨u,by simp [part,h.Et,ha,hu],hr,by trivial⟩
theorem UY (hty:iP P ty) (R:Rel cx st m a w) {s f:Nat} {x:Operand} (ho:o.op= .field s x f) (aY:((wW ty s f (valOf st x)).run st).nO) :
 Good P cx st a w o ((wW ty s f (valOf st x)).run st):=by
 have hx:=R.val x
 generalize valOf st x=av at*
 revert aY
 unfold wW
 split
 ·rename_i o' i l h
  intro aY
  obtain ⟨vs,hv,hsz,hc⟩:=hx
  obtain ⟨fs,fd,h1,h2,rfl,h4,h5⟩:=xQ hty h
  obtain ⟨v,hr,hra,hw⟩:=Gj (P:=P) (cx:=cx) (st:=st) (m:=m) (w:=w) (lb:=lk st.lb) h4 hsz hc aY
  refine Good.val (m':=m) (v:=v) ?_ (by rw [hw]; exact R) (by rw [hw]; exact hra)
  simp [execOp,ho,Instr.field,run_underlying h1,h2,hv,asAgg,hr]
 exact aO
theorem tV (hty:iP P ty) {t e:Nat} {i ie:TI} (hi:ty t=some i) (hd:i.desc= .slice e) (he:kF ty t=some ie) :
 P.underlying t=some (.slice e)/\aI P e ie:=by
 refine ⟨by rw [<- hd]; exact (hty t i hi).und,?_⟩
 unfold kF at he
 obtain ⟨sz,by',ag,ze,desc,en⟩:=i
 simp only at hd
 subst hd
 simp only [hi] at he
 exact hty e ie he
theorem tX (hty:iP P ty) {t e n:Nat} {i ie:TI} (hi:ty t=some i) (hd:i.desc= .array n e) (he:kF ty t=some ie) :
 P.underlying t=some (.array n e)/\aI P e ie:=by
 refine ⟨by rw [<- hd]; exact (hty t i hi).und,?_⟩
 unfold kF at he
 obtain ⟨sz,by',ag,ze,desc,en⟩:=i
 simp only at hd
 subst hd
 simp only [hi] at he
 exact hty e ie he
theorem jl {S:Nat->Prop} {k:IntKind} {n:Int} {v:Value} (h:RD w S (.int k n) v):v= .int k n:=by cases h; rfl
theorem qB {S:Nat->Prop} {b:Bool} {v:Value} (h:RD w S (.bool b) v):v= .bool b:=by cases h; rfl
theorem Xo {S:Nat->Prop} {x:D} {v:Value} (hs:x.cu=true) (h:RD w S x v) {i:Nat} (hi:i<x.len) :
 ∃ B q cap,v= .slice (some ⟨B,q,none⟩) x.len cap/\Ptr w S (x.nth i) 0 (.pointer (some ⟨B,q+i*x.stride,none⟩)):=by
 cases h with
 | sl0 s g ao cap=>simp [D.len] at hi
 | sl s n g B q cap f hn hcap hB hS hl hc hr=>
  simp only [D.len,D.nth,D.stride] at*
  refine ⟨B,q,cap,rfl,B,q+i*s,rfl,hB,hS,λj hj=> ?_⟩
  rw [hl i hi] at hj
  exact ⟨f i j,by rw [Nat.add_assoc]; exact hc i j hi hj,hr i j hi hj⟩
 | _=>simp [D.cu] at hs
theorem run_indexAt_slice {t e:Nat} {ie:TI} (ht:P.underlying t=some (.slice e)) (he:aI P e ie) {B q n cap:Nat} {k:IntKind} {i:Int} (h0:0<=i) (h1:i<n) :
 (Instr.indexAt t (.slice (some ⟨B,q,none⟩) n cap) (.int k i)).run P w= .ok (.pointer (some ⟨B,q+i.toNat*ie.size,none⟩)) w:=by
 simp [Instr.indexAt,asIntOf,run_underlying ht,h0,h1,he.kX,addr_add]
theorem run_indexAt_array {t e len:Nat} {ie:TI} (ht:P.underlying t=some (.array len e)) (he:aI P e ie) {B q:Nat} {k:IntKind} {i:Int} (h0:0<=i) (h1:i<len) :
 (Instr.indexAt t (.pointer (some ⟨B,q,none⟩)) (.int k i)).run P w= .ok (.pointer (some ⟨B,q+i.toNat*ie.size,none⟩)) w:=by
 simp [Instr.indexAt,asIntOf,Instr.sureAddr,run_underlying ht,h0,h1,he.kX,addr_add]
theorem GZ (hty:iP P ty) (R:Rel cx st m a w) {t:Nat} {x y:Operand} (ho:o.op= .indexAddr t x y) (aY:((iH ty t (valOf st x) (valOf st y)).run st).nO) :
 Good P cx st a w o ((iH ty t (valOf st x) (valOf st y)).run st):=by
 have hx:=R.val x
 have hy:=R.val y
 generalize valOf st x=ax at*
 generalize valOf st y=ay at*
 revert aY
 unfold iH
 split
 ·rename_i sz by' ag ze e en ie k i hi he
  obtain ⟨ht,hE⟩:=tV hty hi rfl he
  have hy':=jl hy
  have jO:∀ {v u},a.eval x=u->(Instr.indexAt t u (.int k i)).run P w= .ok v w->(execOp a.eval o).run P w= .ok (.value v) w:=by
   intro v u hu h
   simp [execOp,ho,hu,hy',h]
  split
  ·rename_i kk
   simp only [RA,RU,fD] at hx
   simp only [Rd.run]
   split
   ·rename_i z hl
    intro aY
    simp only [hl] at hx
    simp only [Rd.run] at aY ⊢
    obtain ⟨⟨h0,h1⟩,h2⟩:=aY
    obtain ⟨hsl,hrow⟩:=R.owned kk z hl
    cases hB:m.own kk with
    | none=>simp only [hB,nN] at hx; omega
    | some B=>
     simp only [hB,nN] at hx
     obtain ⟨cap,c,T,hv,hc,_,_⟩:=hx
     refine Good.val (m':=m) (jO hv (run_indexAt_slice (B:=B) (q:=0) ht hE h0 h1)) R ?_
     simp only [bK,RA,RU,fD,hl]
     exact ⟨by omega,B,hB,by rw [h2]; simp⟩
   ·rename_i z hl
    intro aY
    simp only [hl] at hx
    simp only [Rd.run] at aY ⊢
    obtain ⟨⟨h0,h1⟩,h2⟩:=aY
    obtain ⟨B,q,cap,hv,hp⟩:=Xo hx.1 hx.2 (i:=i.toNat) (by omega)
    refine Good.val (m':=m) (jO hv (run_indexAt_slice ht hE h0 h1)) R ?_
    rw [<- h2]; exact hp
   ·rename_i z hl
    intro aY
    simp only [hl] at hx
    simp only [Rd.run] at aY ⊢
    obtain ⟨⟨h0,h1⟩,h2⟩:=aY
    cases hB:m.own kk with
    | none=>simp only [hB,nN] at hx; omega
    | some B=>
     simp only [hB,nN] at hx
     obtain ⟨cap,c,T,hv,hc,_,_⟩:=hx
     refine Good.val (m':=m) (jO hv (run_indexAt_slice (B:=B) (q:=0) ht hE h0 h1)) R ?_
     simp only [bK,RA,RU,fD,hl]
     exact ⟨by omega,B,hB,by rw [h2]; simp⟩
   exact aO
  ·rename_i z
   intro aY
   simp only [Rd.run] at aY ⊢
   obtain ⟨hs,⟨h0,h1⟩,h2⟩:=aY
   obtain ⟨B,q,cap,hv,hp⟩:=Xo hs hx (i:=i.toNat) (by omega)
   refine Good.val (m':=m) (jO hv (run_indexAt_slice ht hE h0 h1)) R ?_
   rw [<- h2]; exact hp
  ·rename_i b off n s
   intro aY
   simp only [Rd.run] at aY ⊢
   obtain ⟨⟨h0,h1⟩,rfl⟩:=aY
   obtain ⟨B,cap,hb,hcap,hv⟩:=hx
   exact Good.val (m':=m) (jO hv (run_indexAt_slice ht hE h0 h1)) R ⟨B,hb,rfl⟩
  exact aO
 ·rename_i sz by' ag ze n e en ie k i hi he
  obtain ⟨ht,hE⟩:=tX hty hi rfl he
  have hy':=jl hy
  have jO:∀ {v u},a.eval x=u->(Instr.indexAt t u (.int k i)).run P w= .ok v w->(execOp a.eval o).run P w= .ok (.value v) w:=by
   intro v u hu h
   simp [execOp,ho,hu,hy',h]
  split
  ·rename_i b off
   intro aY
   simp only [Rd.run] at aY ⊢
   obtain ⟨h0,h1⟩:=aY
   obtain ⟨B,hB,hp⟩:=hx
   exact Good.val (m':=m) (jO hp (run_indexAt_array ht hE h0 h1)) R ⟨B,hB,rfl⟩
  ·rename_i l off
   intro aY
   simp only [Rd.run] at aY ⊢
   obtain ⟨h0,h1⟩:=aY
   obtain ⟨B,q,hp,hB,hS,hc⟩:=hx
   exact Good.val (m':=m) (jO hp (run_indexAt_array ht hE h0 h1)) R ⟨B,q,by rw [Nat.add_assoc],hB,hS,hc⟩
  ·rename_i g off
   intro aY
   simp only [Rd.run] at aY ⊢
   obtain ⟨h0,h1⟩:=aY
   exact Good.val (m':=m) (jO hx (run_indexAt_array ht hE h0 h1)) R rfl
  ·rename_i kk j off
   simp only [RA,RU,fD] at hx
   simp only [Rd.run]
   split
   ·rename_i z hl
    intro aY
    simp only [hl] at hx
    simp only [Rd.run] at aY ⊢
    obtain ⟨h0,h1⟩:=aY
    obtain ⟨hj,B,hB,hp⟩:=hx
    refine Good.val (m':=m) (jO hp (run_indexAt_array ht hE h0 h1)) R ?_
    simp only [bK,RA,RU,fD,hl]
    exact ⟨hj,B,hB,by rw [Nat.add_assoc]⟩
   ·rename_i z hl
    intro aY
    simp only [hl] at hx
    simp only [Rd.run] at aY ⊢
    obtain ⟨h0,h1⟩:=aY
    obtain ⟨hj,hl2,B,q,hp,hB,hS,hc⟩:=hx
    refine Good.val (m':=m) (jO hp (run_indexAt_array ht hE h0 h1)) R ?_
    simp only [bK,RA,RU,fD,hl]
    exact ⟨hj,hl2,B,q,by rw [Nat.add_assoc],hB,hS,hc⟩
   exact aO
  exact aO
 exact aO
theorem xP (x:D):∀ n i,(firsts x n i).length=n
 | 0,_=>rfl
 | n+1,i=>by simp [firsts,xP x n (i+1)]
theorem DJ (x:D):∀ n i j,j<n->(firsts x n i).getD j .undef=(x.nth (i+j)).getD 0 .undef
 | 0,_,_,h=>absurd h (by omega)
 | n+1,i,0,_=>rfl
 | n+1,i,j+1,h=>by
  have:=DJ x n (i+1) j (by omega)
  rw [show i+1+j=i+(j+1) by omega] at this
  simpa [firsts] using this
theorem UQ (hty:iP P ty) (R:Rel cx st m a w) {t:Nat} {x:Operand} (ho:o.op= .sliceToArrayPointer t x) (aY:((wU ty t (valOf st x)).run st).nO) :
 Good P cx st a w o ((wU ty t (valOf st x)).run st):=by
 have hx:=R.val x
 generalize valOf st x=ax at*
 revert aY
 unfold wU
 split
 ·rename_i sz by' ag ze n e en z hi
  intro aY
  simp only [Rd.run] at aY ⊢
  obtain ⟨hs,h1,h2,h3⟩:=aY
  have ht:P.underlying t=some (.array n e):=(hty t _ hi).und
  have hx':RD w (fP cx m) z (a.eval x):=hx
  generalize hu:a.eval x=u at hx'
  cases hx' with
  | sl0 s g ao cap=>simp [D.len] at h3; omega
  | sl s k g B q cap f hn hcap hB hS hl hc hr=>
   simp only [D.len,D.stride] at h1 h3
   subst h1
   refine Good.val (m':=m) (v:= .pointer (some ⟨B,q,none⟩)) ?_ R ⟨B,q,rfl,hB,hS,λj hj=> ?_⟩
   ·have h4:¬ k<n:=by omega
    simp [execOp,ho,hu,Instr.arrayAt,run_underlying ht,h4]
   ·rw [xP] at hj
    refine ⟨f j 0,?_,?_⟩
    ·have:=hc j 0 (by omega) (by omega)
     simpa using this
    ·rw [DJ _ _ _ _ hj,Nat.zero_add]
     exact hr j 0 (by omega) (by omega)
  | _=>simp [D.cu] at hs
 exact aO
theorem pI {S:Nat->Prop} {s:ByteArray} {v:Value} (h:RD w S (.str s) v):v= .string s:=by cases h; rfl
theorem UW (hty:iP P ty) (R:Rel cx st m a w) {t:Nat} {x y:Operand} (ho:o.op= .index t x y) (aY:((wV ty t (valOf st x) (valOf st y)).run st).nO) :
 Good P cx st a w o ((wV ty t (valOf st x) (valOf st y)).run st):=by
 have hx:=R.val x
 have hy:=R.val y
 generalize valOf st x=ax at*
 generalize valOf st y=ay at*
 revert aY
 unfold wV
 split
 ·rename_i sz by' ag ze n e en ie k i l hi he
  obtain ⟨ht,hE⟩:=tX hty hi rfl he
  have hy':=jl hy
  obtain ⟨vs,hv,hsz,hc⟩:=hx
  split
  ·rename_i hpos
   have h0:0<=i:=by omega
   have hrun:∀ v,i<n->(part e vs (i.toNat*ie.size)).run P w= .ok v w->(execOp a.eval o).run P w= .ok (.value v) w:=by
    intro v h1 h
    simp [execOp,ho,hy',hv,Instr.index,asIntOf,run_underlying ht,h0,h1,hE.kX,h]
   split
   ·rename_i ha
    intro aY
    simp only [Rd.run] at aY ⊢
    obtain ⟨h1,h2⟩:=aY
    have hl:((iF ie (i.toNat*ie.size) l).run st)=⟨i.toNat*ie.size+ie.size<=l.length,.agg ((l.drop (i.toNat*ie.size)).take ie.size),[]⟩:=by simp [iF,ha,Rd.run]
    obtain ⟨v,hr,hra,hw⟩:=Gj (P:=P) (cx:=cx) (st:=st) (m:=m) (w:=w) (lb:=lk st.lb) hE hsz hc (off:=i.toNat*ie.size) (by rw [hl]; exact h2)
    rw [hl] at hra
    exact Good.val (m':=m) (hrun v h1 hr) R hra
   rename_i ha
   intro aY
   simp only [Rd.run] at aY ⊢
   obtain ⟨h1,h2,h3⟩:=aY
   have hl:((iF ie (i.toNat*ie.size) l).run st)=⟨i.toNat*ie.size<l.length,.c (l.getD (i.toNat*ie.size) .undef),[]⟩:=by simp [iF,ha,Rd.run]
   obtain ⟨v,hr,hra,hw⟩:=Gj (P:=P) (cx:=cx) (st:=st) (m:=m) (w:=w) (lb:=lk st.lb) hE hsz hc (off:=i.toNat*ie.size) (by rw [hl]; simpa [h2] using h3)
   rw [hl,h2,Nat.mul_one] at hra
   exact Good.val (m':=m) (hrun v h1 hr) R hra
  exact aO
 ·rename_i sz by' ag ze en k i s hi
  intro aY
  simp only [Rd.run] at aY ⊢
  obtain ⟨h0,h1⟩:=aY
  have hy':=jl hy
  have hx':=pI hx
  have ht:=(hty t _ hi).und
  have hlt:i.toNat<s.data.size:=by have:s.size=s.data.size:=rfl; omega
  have hb:s[i.toNat]? =some (s.data[i.toNat]):=getElem?_pos s i.toNat hlt
  have hv:byteAt s i.toNat=((s.data[i.toNat]).toNat:Int):=by rw [byteAt,Array.getElem?_eq_getElem hlt]; rfl
  refine Good.val (m':=m) (w':=w) (v:= .int .u8 (byteAt s i.toNat)) ?_ R (RD.int _ _)
  rw [hv]
  simp [execOp,ho,hy',hx',Instr.index,asIntOf,run_underlying ht,h0,hb]
 exact aO
theorem Nz (R:Rel cx st m a w) {x:Operand} {i:Nat} (ho:o.op= .extract x i) {l:List AU} (hx:RA cx m w (lk st.lb) (.Jy l) (a.eval x)) (hi:i<l.length) :
 Good P cx st a w o ⟨i<l.length,.u (l.getD i default),[]⟩:=by
 obtain ⟨vs,hv,hsz,hc⟩:=hx
 obtain ⟨u,hu,hr⟩:=hc i hi
 refine Good.val (m':=m) (w':=w) (v:=u) ?_ R hr
 simp [execOp,ho,hv,Instr.extract,hu]
theorem qX (R:Rel cx st m a w) {x:Operand} {p:Addr} {v:AV} (ho:o.op= .nilCheck x) (hx:RA cx m w (lk st.lb) v (a.eval x)) (hp:a.eval x= .pointer (some p)) :
 Good P cx st a w o ((rP v).run st):=
 dN R (u:=a.eval x) (by simp [execOp,ho,hp]) hx
theorem aeZ {op:BinOp} {k:IntKind} {x y:Int} {d:D} {p:Prop} (h:ahR op k x y=some (d,p)) (hp:p) (t:Nat) :
 ∃ v,(binOp op t (.int k x) (.int k y)).run P w= .ok v w/\∀ S,RD w S d v:=by
 cases op<;>simp only [ahR,Option.some.injEq,Prod.mk.injEq,reduceCtorEq] at h<;>obtain ⟨rfl,rfl⟩:=h
 case quo=>exact ⟨_,by simp [binOp,Op.intDiv,hp],λS=> .int _ _⟩
 case rem=>exact ⟨_,by simp [binOp,Op.intDiv,hp],λS=> .int _ _⟩
 case shr=>exact ⟨_,by simp [binOp,shift_shr k k x y hp.1 hp.2],λS=> .int _ _⟩
 all_goals first
  | exact ⟨_,by simp [binOp,Op.intArith],λS=> .int _ _⟩
  | exact ⟨_,by simp [binOp,Op.intCmp],λS=> .bool _⟩
theorem Rh (op:BinOp) (t:Nat) (x y:Operand) (k k':IntKind) (p q:Int):(eqGuard op t x y (.int k p) (.int k' q)).run P w= .ok () w:=by
 cases op<;>simp [eqGuard]
theorem Aw (op:BinOp) (t:Nat) (x y:Operand) (p q:Bool):(eqGuard op t x y (.bool p) (.bool q)).run P w= .ok () w:=by
 cases op<;>simp [eqGuard]
theorem run_eql_bool {t:Nat} (h:P.underlying t=some .bool) (p q:Bool):(binOp .eql t (.bool p) (.bool q)).run P w= .ok (.bool (p == q)) w:=by
 simp only [binOp]
 simp only [Op.equal,Op.maxDepth,Sem.run_bind,run_equalIn_bool' w 9999 t p q h,Result.andThen_ok,Sem.run_pure]
theorem run_neq_bool {t:Nat} (h:P.underlying t=some .bool) (p q:Bool):(binOp .neq t (.bool p) (.bool q)).run P w= .ok (.bool (!(p == q))) w:=by
 simp only [binOp]
 simp only [Op.equal,Op.maxDepth,Sem.run_bind,run_equalIn_bool' w 9999 t p q h,Result.andThen_ok,Sem.run_pure]
theorem uz (d:Nat) {t e:Nat} (h:P.underlying t=some (.pointer e)) (x:Option Addr):(Op.equalIn (d+1) t (.pointer x) (.pointer none)).run P w= .ok x.isNone w:=by
 simp only [Op.equalIn]
 cases x<;>simp [run_underlying h]
theorem Dv {t e:Nat} (h:P.underlying t=some (.pointer e)) (x:Option Addr):(binOp .eql t (.pointer x) (.pointer none)).run P w= .ok (.bool x.isNone) w:=by
 simp only [binOp]
 simp only [Op.equal,Op.maxDepth,Sem.run_bind,uz (w:=w) 9999 h x,Result.andThen_ok,Sem.run_pure]
theorem Du {t e:Nat} (h:P.underlying t=some (.pointer e)) (x:Option Addr):(binOp .neq t (.pointer x) (.pointer none)).run P w= .ok (.bool (!x.isNone)) w:=by
 simp only [binOp]
 simp only [Op.equal,Op.maxDepth,Sem.run_bind,uz (w:=w) 9999 h x,Result.andThen_ok,Sem.run_pure]
theorem qJ (op:BinOp) (t:Nat) (x y:Operand) (p q:Option Addr):(eqGuard op t x y (.pointer p) (.pointer q)).run P w= .ok () w:=by
 cases op<;>simp [eqGuard]
theorem Bc {S:Nat->Prop} {b:Bool} {l:List D} {v:Value} (h:RD w S (.pt b l) v):∃ x,v= .pointer x/\x.isNone= !b:=by
 cases h with
 | rO l=>exact ⟨none,rfl,rfl⟩
 | ptr l B o f hB hS hc hr=>exact ⟨_,rfl,rfl⟩
theorem Ri {lb:Nat->Option fE} {ks:List Bool} {l r:List AC} {e:Bool} (h:tN ks l r=some e) {vs us:Array Value} (h1:vs.size=l.length) (h2:us.size=r.length)
 (g1:∀ j,j<l.length->∃ u,vs[j]? =some u/\fD cx m w lb (l.getD j .undef) u) (g2:∀ j,j<r.length->∃ u,us[j]? =some u/\fD cx m w lb (r.getD j .undef) u) :
 ∃ xs ys,vs=evs xs/\us=evs ys/\xs.map EV.kind=ks/\ys.map EV.kind=ks/\e=decide (xs=ys):=by
 obtain ⟨vs⟩:=vs
 obtain ⟨us⟩:=us
 simp only [List.size_toArray,List.getElem?_toArray] at*
 induction ks generalizing l r e vs us with
 | nil=>
  unfold tN at h
  split at h
  ·simp only [Option.some.injEq] at h
   subst h
   exact ⟨[],[],by simp at h1; simp [h1,evs],by simp at h2; simp [h2,evs],rfl,rfl,rfl⟩
  ·rename_i heq; cases heq
  ·rename_i heq; cases heq
  ·cases h
 | cons k ks ih=>
  unfold tN at h
  split at h
  ·rename_i heq; cases heq
  ·rename_i ks' p l' q r' heq
   obtain ⟨rfl,rfl⟩:=by simpa using heq
   simp only [Option.map_eq_some_iff] at h
   obtain ⟨e',he',rfl⟩:=h
   cases vs with
   | nil=>simp at h1
   | cons v vs=>
    cases us with
    | nil=>simp at h2
    | cons u us=>
     obtain ⟨xs,ys,e1,e2,e3,e4,e5⟩:=ih he' vs us (by simpa using h1) (λj hj=>by simpa using g1 (j+1) (by simpa using hj)) (by simpa using h2) (λj hj=>by simpa using g2 (j+1) (by simpa using hj))
     obtain ⟨v',hv',hr1⟩:=g1 0 (by simp)
     obtain ⟨u',hu',hr2⟩:=g2 0 (by simp)
     simp only [List.length_cons,Nat.zero_lt_succ,List.getElem?_cons_zero,Option.some.injEq,List.getD_cons_zero] at hv' hu' hr1 hr2
     subst hv' hu'
     have e6:=jl hr1
     have e7:=jl hr2
     refine ⟨.i p::xs,.i q::ys,?_,?_,by simp [e3,EV.kind],by simp [e4,EV.kind],?_⟩
     ·simp [evs,EV.val] at e1 ⊢; exact ⟨e6,e1⟩
     ·simp [evs,EV.val] at e2 ⊢; exact ⟨e7,e2⟩
     rw [e5]
     by_cases hpq:p=q<;>simp [hpq]
  ·rename_i ks' p l' q r' heq
   obtain ⟨rfl,rfl⟩:=by simpa using heq
   simp only [Option.map_eq_some_iff] at h
   obtain ⟨e',he',rfl⟩:=h
   cases vs with
   | nil=>simp at h1
   | cons v vs=>
    cases us with
    | nil=>simp at h2
    | cons u us=>
     obtain ⟨xs,ys,e1,e2,e3,e4,e5⟩:=ih he' vs us (by simpa using h1) (λj hj=>by simpa using g1 (j+1) (by simpa using hj)) (by simpa using h2) (λj hj=>by simpa using g2 (j+1) (by simpa using hj))
     obtain ⟨v',hv',hr1⟩:=g1 0 (by simp)
     obtain ⟨u',hu',hr2⟩:=g2 0 (by simp)
     simp only [List.length_cons,Nat.zero_lt_succ,List.getElem?_cons_zero,Option.some.injEq,List.getD_cons_zero] at hv' hu' hr1 hr2
     subst hv' hu'
     have e6:=pI hr1
     have e7:=pI hr2
     refine ⟨.s p::xs,.s q::ys,?_,?_,by simp [e3,EV.kind],by simp [e4,EV.kind],?_⟩
     ·simp [evs,EV.val] at e1 ⊢; exact ⟨e6,e1⟩
     ·simp [evs,EV.val] at e2 ⊢; exact ⟨e7,e2⟩
     rw [e5]
     by_cases hpq:p=q<;>simp [hpq]
  cases h
theorem vW (op:BinOp) (t:Nat) (x y:Operand) (p q:ByteArray):(eqGuard op t x y (.string p) (.string q)).run P w= .ok () w:=by
 cases op<;>simp [eqGuard]
theorem QI (R:Rel cx st m a w) {op:BinOp} {t yt:Nat} {x y:Operand} {p q:ByteArray} (ho:o.op= .binOp op t x y yt) (hx:a.eval x= .string p) (hy:a.eval y= .string q) (aY:((FB op p q).run st).nO) :
 Good P cx st a w o ((FB op p q).run st):=by
 revert aY
 unfold FB
 split
 ·intro _
  refine dN R (u:= .bool (decide (p=q))) ?_ (RD.bool _)
  simp [execOp,ho,hx,hy,vW,binOp,Op.stringOp,KN]
 ·intro _
  refine dN R (u:= .bool (!(decide (p=q)))) ?_ (RD.bool _)
  simp [execOp,ho,hx,hy,vW,binOp,Op.stringOp,KN]
 ·intro aY
  simp only [Rd.run] at aY ⊢
  refine Good.val (m':=m) (w':=w) (v:= .string (p++q)) ?_ R (RD.str _)
  have hn:¬ (((p.size+q.size:Nat):Int)>IntKind.i64.max):=by
   have:IntKind.i64.max=9223372036854775807:=by decide
   omega
  simp only [execOp,ho,hx,hy,Sem.run_bind,vW,Result.andThen_ok,binOp,Op.stringOp,if_neg hn,Sem.run_pure]
 exact aO
theorem abA {S:Nat->Prop} {b:Bool} {v:Value} (h:RD w S (.err b) v):(b=false/\v= .nilIface)\/(b=true/\∃ t u,v= .iface t u):=by
 cases h with
 | Vk=>exact .inl ⟨rfl,rfl⟩
 | DK t u=>exact .inr ⟨rfl,t,u,rfl⟩
theorem rH (op:BinOp) (t:Nat) (x y:Operand) (p:Value) (hc:isConst y=true) (hp:p= .nilIface\/∃ t u,p= .iface t u):(eqGuard op t x y p .nilIface).run P w= .ok () w:=by
 cases y with
 | const v=>
  rcases hp with rfl | ⟨t,u,rfl⟩
  ·cases op<;>simp [eqGuard]
  ·cases op<;>simp [eqGuard]
 | _=>cases hc
theorem uD {t:Nat} {ms:Array (String×TypeId)} (d:Nat) (h:P.underlying t=some (.interface ms)) (p:Value) (b:Bool) (hp:(b=false/\p= .nilIface)\/(b=true/\∃ t u,p= .iface t u)):(Op.equalIn (d+1) t p .nilIface).run P w= .ok (!b) w:=by
 rcases hp with ⟨rfl,rfl⟩ | ⟨rfl,t,u,rfl⟩
 ·simp [Op.equalIn,run_underlying h]
 simp [Op.equalIn,run_underlying h]
theorem QM (hty:iP P ty) (R:Rel cx st m a w) {op:BinOp} {t yt:Nat} {x y:Operand} {p q:Bool} (ho:o.op= .binOp op t x y yt) (hx:RD w (fP cx m) (.err p) (a.eval x)) (hy:RD w (fP cx m) (.err q) (a.eval y)) (aY:((Hy ty (isConst y) op t p q).run st).nO) :
 Good P cx st a w o ((Hy ty (isConst y) op t p q).run st):=by
 revert aY
 unfold Hy
 have hx':=abA hx
 have hy':=abA hy
 split
 ·rename_i sz by' ag ze ms en hi
  have hu:=(hty t _ hi).und
  have hg:a.eval x= .nilIface\/∃ t u,a.eval x= .iface t u:=by
   rcases hx' with ⟨_,h⟩ | ⟨_,h⟩
   ·exact .inl h
   exact .inr h
  split
  ·intro aY
   simp only [Rd.run] at aY ⊢
   obtain ⟨hc,rfl⟩:=aY
   have hyv:a.eval y= .nilIface:=by rcases hy' with ⟨_,h⟩ | ⟨h,_⟩<;>first | exact h | cases h
   refine Good.val (m':=m) (w':=w) (v:= .bool (!p)) ?_ R (RD.bool _)
   have hr:=uD (w:=w) 9999 hu (a.eval x) p hx'
   have al0:(binOp .eql t (a.eval x) .nilIface).run P w= .ok (.bool (!p)) w:=by
    rcases hx' with ⟨rfl,h⟩ | ⟨rfl,t',u',h⟩<;>rw [h] at hr ⊢ <;>simp only [binOp,Op.equal,Op.maxDepth,Sem.run_bind,hr,Result.andThen_ok,Sem.run_pure]
   simp only [execOp,ho,hyv,Sem.run_bind,rH _ _ _ _ _ hc hg,al0,Result.andThen_ok,Sem.run_pure]
  ·intro aY
   simp only [Rd.run] at aY ⊢
   obtain ⟨hc,rfl⟩:=aY
   have hyv:a.eval y= .nilIface:=by rcases hy' with ⟨_,h⟩ | ⟨h,_⟩<;>first | exact h | cases h
   refine Good.val (m':=m) (w':=w) (v:= .bool p) ?_ R (RD.bool _)
   have hr:=uD (w:=w) 9999 hu (a.eval x) p hx'
   have al0:(binOp .neq t (a.eval x) .nilIface).run P w= .ok (.bool p) w:=by
    rcases hx' with ⟨rfl,h⟩ | ⟨rfl,t',u',h⟩<;>rw [h] at hr ⊢ <;>simp only [binOp,Op.equal,Op.maxDepth,Sem.run_bind,hr,Result.andThen_ok,Sem.run_pure,Bool.not_not]
   simp only [execOp,ho,hyv,Sem.run_bind,rH _ _ _ _ _ hc hg,al0,Result.andThen_ok,Sem.run_pure]
  exact aO
 exact aO
theorem adU (hty:iP P ty) (R:Rel cx st m a w) {op:BinOp} {t yt:Nat} {x y:Operand} (ho:o.op= .binOp op t x y yt) (aY:((KA ty (isConst y) op t (valOf st x) (valOf st y)).run st).nO) :
 Good P cx st a w o ((KA ty (isConst y) op t (valOf st x) (valOf st y)).run st):=by
 have hx:=R.val x
 have hy:=R.val y
 generalize valOf st x=ax at*
 generalize valOf st y=ay at*
 revert aY
 unfold KA
 split
 ·rename_i j p k q
  have hx':=jl hx
  have hy':=jl hy
  split
  ·rename_i hjk
   subst hjk
   split
   ·rename_i v pr hv
    intro aY
    simp only [Rd.run] at aY ⊢
    obtain ⟨u,hu,hr⟩:=aeZ (P:=P) (w:=w) hv aY t
    refine Good.val (m':=m) (w':=w) (v:=u) ?_ R (hr _)
    simp [execOp,ho,hx',hy',Rh,hu]
   exact aO
  exact aO
 ·rename_i p q
  have hx':=qB hx
  have hy':=qB hy
  split
  ·rename_i sz by' ag ze en hi
   have hu:=(hty t _ hi).und
   split
   ·intro _
    refine dN R (u:= .bool (p == q)) ?_ (RD.bool _)
    simp only [execOp,ho,hx',hy',Sem.run_bind,Aw,run_eql_bool hu,Result.andThen_ok,Sem.run_pure]
   ·intro _
    refine dN R (u:= .bool (!(p == q))) ?_ (RD.bool _)
    simp only [execOp,ho,hx',hy',Sem.run_bind,Aw,run_neq_bool hu,Result.andThen_ok,Sem.run_pure]
   exact aO
  exact aO
 ·rename_i b l1 c l2
  obtain ⟨p,hx',hp⟩:=Bc hx
  obtain ⟨q,hy',hq⟩:=Bc hy
  split
  ·rename_i sz by' ag ze e en hi
   have hu:=(hty t _ hi).und
   split
   ·intro hc
    obtain rfl:c=false:=hc
    obtain rfl:q=none:=by cases q<;>first | rfl | simp at hq
    refine dN R (u:= .bool p.isNone) ?_ (by rw [hp]; exact RD.bool _)
    simp only [execOp,ho,hx',hy',Sem.run_bind,qJ,Dv hu,Result.andThen_ok,Sem.run_pure]
   ·intro hc
    obtain rfl:c=false:=hc
    obtain rfl:q=none:=by cases q<;>first | rfl | simp at hq
    refine dN R (u:= .bool (!p.isNone)) ?_ (by rw [hp,Bool.not_not]; exact RD.bool _)
    simp only [execOp,ho,hx',hy',Sem.run_bind,qJ,Du hu,Result.andThen_ok,Sem.run_pure]
   exact aO
  exact aO
 ·rename_i l1 o1 c l2
  obtain ⟨B1,o1',hx',-⟩:=hx
  obtain ⟨q,hy',hq⟩:=Bc hy
  split
  ·rename_i sz by' ag ze e en hi
   have hu:=(hty t _ hi).und
   split
   ·intro hc
    obtain rfl:c=false:=hc
    obtain rfl:q=none:=by cases q<;>first | rfl | simp at hq
    refine dN R (u:= .bool false) ?_ (RD.bool _)
    simp only [execOp,ho,hx',hy',Sem.run_bind,qJ,Dv hu,Result.andThen_ok,Sem.run_pure]; rfl
   ·intro hc
    obtain rfl:c=false:=hc
    obtain rfl:q=none:=by cases q<;>first | rfl | simp at hq
    refine dN R (u:= .bool true) ?_ (RD.bool _)
    simp only [execOp,ho,hx',hy',Sem.run_bind,qJ,Du hu,Result.andThen_ok,Sem.run_pure]; rfl
   exact aO
  exact aO
 ·rename_i l r
  split
  ·rename_i sz by' ag ze ds ks hi
   split
   ·rename_i e he
    obtain ⟨vs,hv,hs1,hc1⟩:=hx
    obtain ⟨us,hu,hs2,hc2⟩:=hy
    obtain ⟨xs,ys,e1,e2,e3,e4,e5⟩:=Ri he hs1 hs2 hc1 hc2
    have hE:=(hty t _ hi).eq ks rfl
    have hrun:=hE.run xs ys w e3 e4
    rw [<- e1, <- e2] at hrun
    split
    ·intro _
     refine dN R (u:= .bool e) ?_ (RD.bool _)
     simp only [execOp,ho,hv,hu,Sem.run_bind,run_eqGuard_agg _ _ _ _ _ _ _ hE.guard,run_eql_struct,hrun,Result.andThen_ok,Sem.run_pure,e5]
    ·intro _
     refine dN R (u:= .bool (!e)) ?_ (RD.bool _)
     simp only [execOp,ho,hv,hu,Sem.run_bind,run_eqGuard_agg _ _ _ _ _ _ _ hE.guard,run_neq_struct,hrun,Result.andThen_ok,Sem.run_pure,e5]
    exact aO
   exact aO
  exact aO
 ·rename_i p q
  exact λh=>QI R ho (pI hx) (pI hy) h
 ·rename_i p q
  exact λh=>QM hty R ho hx hy h
 exact aO
theorem ZP (R:Rel cx st m a w) {x y z:Operand} (ho:o.op= .pick x y z) (aY:((tK (valOf st x) (valOf st y) (valOf st z)).run st).nO) :
 Good P cx st a w o ((tK (valOf st x) (valOf st y) (valOf st z)).run st):=by
 have hx:=R.val x
 have hy:=R.val y
 have hz:=R.val z
 generalize valOf st x=ax at*
 generalize valOf st y=ay at*
 generalize valOf st z=az at*
 have hun:∀ {v:AV} {u:AU} {q:Bool} {c:Value},jf v=some (u,q)->RA cx m w (lk st.lb) v c->q=true->RU cx m w (lk st.lb) u c:=by
  intro v u q c h hr hq
  cases v with
  | u x=>
   obtain ⟨rfl,rfl⟩:=by simpa [jf] using h
   exact hr
  | cnd b x=>
   obtain ⟨rfl,rfl⟩:=by simpa [jf] using h
   exact hr.1 hq
  | Jy l=>simp [jf] at h
 revert aY
 unfold tK
 split
 ·rename_i p yu q zu r h1 h2
  have hx':=qB hx
  have jO:(execOp a.eval o).run P w= .ok (.value (if p=true then a.eval y else a.eval z)) w:=by
   cases p<;>simp [execOp,ho,hx',asBool]
  split
  ·rename_i b c
   intro aY
   simp only [Rd.run] at aY ⊢
   refine Good.val (m':=m) jO R ?_
   cases p with
   | true=>rw [if_pos rfl]; exact hun h1 hy (aY.1 rfl)
   | false=>rw [if_neg (by simp)]; exact hun h2 hz (aY.2 rfl)
  ·rename_i j b k c
   intro aY
   simp only [Rd.run] at aY ⊢
   refine Good.val (m':=m) jO R ?_
   obtain ⟨g1,g2,rfl⟩:=aY
   cases p with
   | true=>rw [if_pos rfl]; exact hun h1 hy (g1 rfl)
   | false=>rw [if_neg (by simp)]; exact hun h2 hz (g2 rfl)
  exact aO
 exact aO
theorem NC (hty:iP P ty) (R:Rel cx st m a w) {s d:Nat} {x:Operand} (ho:o.op= .convert s d x) (hs:(ty s).isSome) (aY:((oW ty d (valOf st x)).run st).nO) :
 Good P cx st a w o ((oW ty d (valOf st x)).run st):=by
 have hx:=R.val x
 generalize valOf st x=ax at*
 revert aY
 unfold oW
 split
 ·rename_i sz by' ag ze en s' hi
  intro _
  have hx':=pI hx
  obtain ⟨si,hsi⟩:=Option.isSome_iff_exists.1 hs
  refine dN R (u:= .string s') ?_ (RD.str _)
  simp only [execOp,ho,hx']
  simp only [convert,Sem.run_bind,run_underlying (hty d _ hi).und,run_underlying (hty s _ hsi).und,Result.andThen_ok]
  cases si.desc<;>simp
 ·rename_i sz by' ag ze k en k' n hi
  intro _
  have hx':=jl hx
  obtain ⟨si,hsi⟩:=Option.isSome_iff_exists.1 hs
  refine dN R (u:= .int k (k.wrap n)) ?_ (RD.int _ _)
  simp [execOp,ho,hx',convert,run_underlying (hty d _ hi).und,run_underlying (hty s _ hsi).und,Conv.intToInt]
 exact aO
end
end Go.dR
set_option linter.unusedVariables false
set_option linter.unusedSimpArgs false
namespace Go.dR
section
variable {P:Program} {ty:iT} {cx:Cx} {st:St} {m m1 m':Mp} {a:Act} {w w':World} {o:Oper} {out:Out}
def Known (cx:Cx) (w:World) (B:Nat):Prop:=B<w.heap.size/\(cx.S0 B\/cx.w0.heap.size<=B)
theorem rV (cx:Cx) (m:Mp) (w:World):Ext w w (fP cx m) (Known cx w):=⟨Nat.le_refl _,λ_ _ _=>rfl,λB hB h=>⟨hB,h.1⟩⟩
def DOf (lb:Nat->Option fE):AC->D->Prop
 | .d y,d=>d=y
 | .dF,d=>(d= .sl 0 0 λ_=>[])\/d= .nl
 | .own k,d=>lb k=some (.owned d)\/lb k=some (.shared d)
 | .dM l 0,d=>d= .pt true l
 | .clo g [],d=>d= .fn g
 | _,_=>False
theorem wH (st:St) (x:AC) (f:D->Rd Out):(∃ d,DOf (lk st.lb) x d/\(Jz x f).run st=(f d).run st)\/(Jz x f).run st=⟨False,default,[]⟩:=by
 cases x with
 | clo g caps=>cases caps with
  | nil=>exact .inl ⟨_,rfl,rfl⟩
  | cons _ _=>exact .inr rfl
 | dM l off=>cases off with
  | zero=>exact .inl ⟨_,rfl,rfl⟩
  | succ o=>exact .inr rfl
 | own k=>
  simp only [Jz,Rd.run]
  split
  ·rename_i h; exact .inl ⟨_,.inl h,rfl⟩
  ·rename_i h; exact .inl ⟨_,.inr h,rfl⟩
  ·exact .inr rfl
 | _=>first | exact .inl ⟨_,rfl,rfl⟩ | exact .inl ⟨_,.inl rfl,rfl⟩ | exact .inr rfl
theorem Rel.dof (R:Rel cx st m a w) {x:AC} {d:D} {v:Value} (hd:DOf (lk st.lb) x d) (hx:fD cx m w (lk st.lb) x v):RD w (Known cx w) d v:=by
 cases x with
 | d y=>obtain rfl:=hd; exact RD.ext (rV cx m w) hx
 | dF=>
  obtain rfl:=hx
  rcases hd with rfl | rfl
  ·exact .sl0 _ _ _ _
  ·exact .nl
 | own k=>
  simp only [fD] at hx
  rcases hd with hd | hd
  ·simp only [hd] at hx
   obtain ⟨hs,hrow⟩:=R.owned k d hd
   cases hB:m.own k with
   | none=>
    simp only [hB,nN] at hx
    obtain ⟨rfl,hn⟩:=hx
    rw [D.eta hs,hn]; exact .sl0 _ _ _ _
   | some B=>
    simp only [hB,nN] at hx
    obtain ⟨cap,c,T,rfl,_,_,hle⟩:=hx
    have hb:=R.dK k B hB
    exact yx ((hrow B hB).ext (rV cx m w) rfl) ⟨hb.2,.inr hb.1⟩ hb.2 hle
  ·simp only [hd] at hx
   exact hx.2.ext (rV cx m w)
 | dM l off=>
  cases off with
  | zero=>obtain rfl:=hd; exact RD.ext (rV cx m w) (FX.2 hx)
  | succ o=>exact hd.elim
 | clo g caps=>
  cases caps with
  | nil=>obtain rfl:=hd; rw [MG hx]; exact .fn g
  | cons _ _=>exact hd.elim
 | _=>exact hd.elim
def VL (lb:Nat->Option fE) (l:List AC) (ds:List D):Prop:=ds.length=l.length/\∀ j,j<l.length->DOf lb (l.getD j .undef) (ds.getD j .undef)
theorem zL (st:St) (l:List AC) (f:List D->Rd Out):(∃ ds,VL (lk st.lb) l ds/\(qM l f).run st=(f ds).run st)\/(qM l f).run st=⟨False,default,[]⟩:=by
 induction l generalizing f with
 | nil=>exact .inl ⟨[],⟨rfl,λj hj=>by simp at hj⟩,rfl⟩
 | cons x r ih=>
  simp only [qM]
  rcases wH st x (λd=>qM r λds=>f (d::ds)) with ⟨d,hd,h⟩ | h
  ·rw [h]
   rcases ih (λds=>f (d::ds)) with ⟨ds,hds,h2⟩ | h2
   ·refine .inl ⟨d::ds,⟨by simp [hds.1],λj hj=> ?_⟩,h2⟩
    cases j with
    | zero=>exact hd
    | succ j=>exact hds.2 j (by simpa using hj)
   exact .inr h2
  exact .inr h
theorem YO (st:St) (l:List AC) (f:List D->Rd Out):(∃ ds,VL (lk st.lb) l ds/\(uy l f).run st=(f ds).run st)\/(uy l f).run st=⟨False,default,[]⟩:=by
 unfold uy
 split
 ·refine .inl ⟨[.nl],⟨rfl,λj hj=> ?_⟩,rfl⟩
  obtain rfl:j=0:=by simp at hj; omega
  exact .inr rfl
 exact zL st l f
theorem xJ (st:St) (ws vs:List Wr):bK st (ws++vs)=bK (bK st ws) vs:=by
 induction ws generalizing st with
 | nil=>rfl
 | cons x r ih=>exact ih _
theorem Zq (st:St) (ws:List Wr):(bK st ws).sl=st.sl:=by
 induction ws generalizing st with
 | nil=>rfl
 | cons x r ih=>simp only [bK]; rw [ih]; cases x<;>rfl
def Up (st st':St):Prop:=st'.bx=st.bx/\∀ k,lk st'.lb k=lk st.lb k\/∃ x,lk st.lb k=some (.owned x)/\lk st'.lb k=some (.shared x)
def jm (l:List AC):List Nat:=l.filterMap (fun | .own k=>some k | _=>none)
theorem FT (l:List AC) (f:List Wr->Rd Out) :
 (∃ ws,(bJ l f).run st=(f ws).run st/\∀ st' m',Up st st'->Rel cx st' m' a w->∃ m1,Rel cx (bK st' ws) m1 a w/\Up st (bK st' ws)/\
  (∀ k,(∃ x,lk st'.lb k=some (.shared x))->∃ x,lk (bK st' ws).lb k=some (.shared x))/\
  (∀ k∈jm l,∃ x,lk (bK st' ws).lb k=some (.shared x)))\/
 (bJ l f).run st=⟨False,default,[]⟩:=by
 induction l generalizing f with
 | nil=>exact .inl ⟨[],rfl,λst' m' hu R=>⟨m',R,hu,λk h=>h,λk hk=>by simp [jm] at hk⟩⟩
 | cons x r ih=>
  by_cases hb:∃ b off n s,x= .xg b off n s
  ·obtain ⟨b,off,n,s,rfl⟩:=hb; exact .inr rfl
  have other:(∀ k,x≠ .own k)->jm (x::r)=jm r/\(bJ (x::r) f)=bJ r f:=by
   intro h
   cases x<;>first | exact ⟨rfl,rfl⟩ | exact absurd rfl (h _) | exact absurd ⟨_,_,_,_,rfl⟩ hb
  by_cases hx:∃ k,x= .own k
  ·obtain ⟨k,rfl⟩:=hx
   simp only [bJ,Rd.run]
   have hl:jm (.own k::r)=k::jm r:=rfl
   split
   ·rename_i y hk
    rcases ih (λws=>f (.lab k (.shared y)::ws)) with ⟨ws,h1,h2⟩ | h
    ·refine .inl ⟨.lab k (.shared y)::ws,h1,λst' m' hu R=> ?_⟩
     have hu':Up st ((Wr.lab k (.shared y)).put st'):=⟨hu.1,λk'=>by
      by_cases e:k'=k
      ·subst e; exact .inr ⟨y,hk,aX _ _ _⟩
      simp only [Wr.put]; rw [aS e]; exact hu.2 k'⟩
     have R':∃ m2,Rel cx ((Wr.lab k (.shared y)).put st') m2 a w:=by
      rcases hu.2 k with e | ⟨z,e1,e2⟩
      ·exact ⟨_,R.share (e.trans hk)⟩
      rw [hk] at e1
      obtain ⟨⟩:=Option.some.inj e1
      refine ⟨m',R.alike (λ_=>rfl) (λ_=>rfl) (λk'=> ?_)⟩
      by_cases e:k'=k
      ·subst e; rw [aX,e2]
      rw [aS e]
     obtain ⟨m2,R2⟩:=R'
     obtain ⟨m1,g1,g2,g3,g4⟩:=h2 _ m2 hu' R2
     refine ⟨m1,g1,g2,λk' hk'=>g3 k' ?_,λk' hk'=> ?_⟩
     ·by_cases e:k'=k
      ·subst e; exact ⟨y,aX _ _ _⟩
      simp only [Wr.put]; rw [aS e]; exact hk'
     rw [hl] at hk'
     rcases List.mem_cons.1 hk' with rfl | hk'
     ·exact g3 _ ⟨y,aX _ _ _⟩
     exact g4 k' hk'
    exact .inr h
   ·rename_i y hk
    rcases ih f with ⟨ws,h1,h2⟩ | h
    ·refine .inl ⟨ws,h1,λst' m' hu R=> ?_⟩
     obtain ⟨m1,g1,g2,g3,g4⟩:=h2 st' m' hu R
     refine ⟨m1,g1,g2,g3,λk' hk'=> ?_⟩
     rw [hl] at hk'
     rcases List.mem_cons.1 hk' with rfl | hk'
     ·refine g3 _ ?_
      rcases hu.2 k' with e | ⟨z,e1,e2⟩
      ·exact ⟨y,e.trans hk⟩
      exact ⟨z,e2⟩
     exact g4 k' hk'
    exact .inr h
   exact .inr rfl
  obtain ⟨e1,e2⟩:=other (λk e=>hx ⟨k,e⟩)
  rw [e1,e2]
  exact ih f
theorem qP (R:Rel cx st m a w) (l:List AC) (f:List Wr->Rd Out) :
 (∃ ws m1,(bJ l f).run st=(f ws).run st/\Rel cx (bK st ws) m1 a w/\Up st (bK st ws)/\∀ k∈jm l,∃ x,lk (bK st ws).lb k=some (.shared x))\/
 (bJ l f).run st=⟨False,default,[]⟩:=by
 rcases FT (cx:=cx) (a:=a) (w:=w) (st:=st) l f with ⟨ws,h1,h2⟩ | h
 ·obtain ⟨m1,g1,g2,_,g4⟩:=h2 st m ⟨rfl,λ_=> .inl rfl⟩ R
  exact .inl ⟨ws,m1,h1,g1,g2,g4⟩
 exact .inr h
theorem Up.none {st st':St} (h:Up st st') {k:Nat} (hk:lk st.lb k=none):lk st'.lb k=none:=by
 rcases h.2 k with e | ⟨x,e,_⟩
 ·exact e.trans hk
 rw [hk] at e; cases e
theorem Up.dof {st st':St} (h:Up st st') {x:AC} {d:D} (hd:DOf (lk st.lb) x d):DOf (lk st'.lb) x d:=by
 cases x with
 | own k=>
  rcases h.2 k with e | ⟨y,e1,e2⟩
  ·simpa only [DOf,e] using hd
  ·rcases hd with hd | hd
   ·rw [e1] at hd; obtain ⟨⟩:=Option.some.inj hd; exact .inr e2
   ·rw [e1] at hd; cases hd
 | dM l off=>cases off<;>exact hd
 | clo g caps=>cases caps<;>exact hd
 | _=>exact hd
theorem Jw (st:St) (ws:List Wr) (x:Operand):valOf (bK st ws) x=valOf st x:=by cases x<;>simp [valOf,Zq]
theorem sW (st:St) (ws:List Wr) (l:List Operand):valsOf (bK st ws) l=valsOf st l:=by induction l<;>simp_all [valsOf,Jw]
theorem Rel.tZ (R:Rel cx st m a w) {x:AC} {d:D} {v:Value} (hd:DOf (lk st.lb) x d) (hs:∀ k∈jm [x],∃ y,lk st.lb k=some (.shared y)) (hx:fD cx m w (lk st.lb) x v):RD w (fP cx m) d v:=by
 cases x with
 | d y=>obtain rfl:=hd; exact hx
 | dF=>
  obtain rfl:=hx
  rcases hd with rfl | rfl
  ·exact .sl0 _ _ _ _
  ·exact .nl
 | own k=>
  obtain ⟨y,hy⟩:=hs k (by simp [jm])
  simp only [fD,hy] at hx
  rcases hd with hd | hd
  ·rw [hy] at hd; cases hd
  ·rw [hy] at hd; obtain ⟨⟩:=Option.some.inj hd; exact hx.2
 | dM l off=>
  cases off with
  | zero=>obtain rfl:=hd; exact FX.2 hx
  | succ o=>exact hd.elim
 | clo g caps=>
  cases caps with
  | nil=>obtain rfl:=hd; rw [MG hx]; exact .fn g
  | cons _ _=>exact hd.elim
 | _=>exact hd.elim
theorem GX {ws:List Wr} (R1:Rel cx (bK st ws) m1 a w) (hnew:∀ k,lk st.lb k=none->lk (bK st ws).lb k=none) {lin:Bool} {nm:Nat} {p:Prop} {x:D} {c:Array Value} {T cap:Nat}
 (hrun:p->(execOp a.eval o).run P w= .ok (.value (.slice (some ⟨w.heap.size,0,none⟩) x.len cap)) w') (he:dS w w') (hh:w'.heap=w.heap.push (.cells c T (0,0)))
 (hx:x.cu=true) (hsz:p->c.size=cap*x.stride/\x.len<=cap)
 (hrow:p->∀ i,i<x.len->(x.nth i).length=x.stride/\∀ j,j<x.stride->∃ u,c[i*x.stride+j]? =some u/\RD w (fP cx m1) ((x.nth i).getD j .undef) u)
 (aY:((xK lin nm p x ws).run st).nO):Good P cx st a w o ((xK lin nm p x ws).run st):=by
 have hB:w'.heap[w.heap.size]? =some (.cells c T (0,0)):=by rw [hh]; simp
 have hold:∀ B,B<w.heap.size->w'.heap[B]? =w.heap[B]? :=λB hB=>by rw [hh,Array.getElem?_push,if_neg (by omega)]
 have hs:w.heap.size<=w'.heap.size:=by rw [hh]; simp
 have hext:Ext w w' (fP cx m1) (λB'=>fP cx m1 B'/\B'≠w.heap.size):=⟨hs,λB' h _=>hold B' h,λB' h hS=>⟨hS,by omega⟩⟩
 have hrow':p->Row w' (λB'=>fP cx m1 B'/\B'≠w.heap.size) w.heap.size x:=λhp=>⟨c,T,hB,hx,λi hi=>⟨(hrow hp i hi).1,λj hj=>by
  obtain ⟨u,hu,hr⟩:=(hrow hp i hi).2 j hj
  exact ⟨u,hu,hr.ext hext⟩⟩⟩
 revert aY
 unfold xK
 cases lin with
 | true=>
  simp only [if_true]
  rcases jy st nm (λk=> .ret ⟨p,.c (.own k),ws++[.lab k (.owned x)]⟩) with ⟨k,hk,h⟩ | h
  ·rw [h]
   intro hp
   simp only [Rd.run] at hp ⊢
   have hput:bK st (ws++[.lab k (.owned x)])=⟨(bK st ws).sl,(bK st ws).bx,(k,.owned x)::(bK st ws).lb⟩:=by rw [xJ]; rfl
   have R2:=R1.fU (hnew k hk) (x:=x) hs hold (B:=w.heap.size) (Nat.le_refl _) (by rw [hh]; simp) hx he (hrow' hp)
   refine Good.val (hrun hp) (by rw [hput]; exact R2) ?_
   rw [hput]
   simp only [RA,RU,fD,aX,upd_same,nN]
   exact ⟨cap,c,T,rfl,hB,(hsz hp).1,(hsz hp).2⟩
  ·rw [h]; exact λhp=>hp.elim
 | false=>
  simp only [Bool.false_eq_true,if_false]
  cases ws with
  | nil=>
   intro hp
   simp only [Rd.run] at hp ⊢
   refine Good.val (m':=m1) (hrun hp) (R1.grow he hs hold) ?_
   have hS:fP cx m1 w.heap.size:=⟨.inr R1.size,λk h=>by have:=R1.dK k _ h; omega,λb h=>by have:=R1.gu b _ h; omega,λk j h=>by have:=R1.bn.blk k j _ h; omega⟩
   exact yx ((hrow' hp).ext ⟨Nat.le_refl _,λ_ _ _=>rfl,λ_ _ h=>h.1⟩ rfl) hS (by rw [hh]; simp) (hsz hp).2
  | cons x r=>exact λhp=>hp.elim
theorem MR {l:List AC} {ds:List D} (h:zU l=some ds):ds.length=l.length/\∀ j,j<l.length->Gi (l.getD j .undef)=some (ds.getD j .undef)\/(l.getD j .undef= .dF/\ds.getD j .undef= .nl):=by
 unfold zU at h
 split at h
 ·obtain rfl:=Option.some.inj h
  refine ⟨rfl,λj hj=> .inr ?_⟩
  obtain rfl:j=0:=by simp at hj; omega
  exact ⟨rfl,rfl⟩
 obtain ⟨h1,h2⟩:=Dz h
 exact ⟨h1,λj hj=> .inl (h2 j hj)⟩
theorem GY (hty:iP P ty) (R:Rel cx st m a w) {lin:Bool} {nm t:Nat} {x y:Operand} (ho:o.op= .makeSlice t x y) (aY:((lY ty lin nm t (valOf st x) (valOf st y)).run st).nO) :
 Good P cx st a w o ((lY ty lin nm t (valOf st x) (valOf st y)).run st):=by
 have hx:=R.val x
 have hy:=R.val y
 generalize valOf st x=ax at*
 generalize valOf st y=ay at*
 revert aY
 unfold lY
 split
 ·rename_i sz by' ag ze e en kl l kc c hi
  have hx':=jl hx
  have hy':=jl hy
  split
  ·rename_i i he
   have hE:=hty e i he
   obtain ⟨info,z,h1,h2,h3,h4,h5⟩:=hE.info
   split
   ·rename_i ds hds
    intro aY
    obtain ⟨p1,p2⟩:=MR hds
    have hzs:z.cells.size=i.size:=by rw [<- Array.length_toList,h5,hE.IU]
    refine GX (m1:=m) (ws:=[]) R (λ_ h=>h) (w':=w.alloc (.cells (madeCells z.cells (c.toNat*i.size)) e)) (c:=madeCells z.cells (c.toNat*i.size)) (T:=e) (cap:=c.toNat)
     (λhp=> ?_) ⟨rfl,rfl,rfl⟩ rfl rfl (λhp=> ?_) (λhp q hq=> ?_) aY
    ·have:=run_make (P:=P) w t e info z (hty t _ hi).und h1 h4 kl kc l c hp.1.1 hp.1.2.1 (by rw [h3]; exact hp.1.2.2.2) hp.1.2.2.1
     rw [h2] at this
     simp [execOp,ho,hx',hy',this,D.rep,D.len]
    ·simp only [D.rep,D.stride,D.len,size_madeCells]
     exact ⟨trivial,by omega⟩
    simp only [D.rep,D.stride,D.nth,D.len] at*
    refine ⟨by rw [p1]; simp [hE.IU],λj hj=> ?_⟩
    have hlt:q*i.size+j<c.toNat*i.size:=by
     have:(q+1)*i.size<=c.toNat*i.size:=Nat.mul_le_mul_right _ (by omega)
     rw [Nat.add_mul] at this; omega
    refine ⟨z.cells[j]'(by omega),?_,?_⟩
    ·have hmod:(q*i.size+j) % i.size=j:=by rw [Nat.mul_comm,Nat.mul_add_mod]; exact Nat.mod_eq_of_lt hj
     have QA:z.cells[j]! =z.cells[j]'(by omega):=getElem!_pos z.cells j (by omega)
     simp [madeCells,hlt,hzs,hmod,QA]
    have hpj:=p2 j (by simp [hE.IU,hj])
    have hz:i.zero[j]? =some (z.cells[j]'(by omega)):=by rw [<- h5]; simp [hzs,hj]
    have:(i.zero.map Dn).getD j .undef=Dn (z.cells[j]'(by omega)):=by simp [List.getD_eq_getElem?_getD,hz]
    rw [this] at hpj
    rcases hpj with hpj | ⟨h1,h2⟩
    ·exact JH (cx:=cx) (m:=m) (w:=w) (lb:=lk st.lb) hpj (wK _ _)
    rw [h2]
    have h3:fD cx m w (lk st.lb) (Dn (z.cells[j]'(by omega))) (z.cells[j]'(by omega)):=wK _ _
    rw [h1] at h3
    have h4:z.cells[j]'(by omega)= .slice none 0 0:=h3
    rw [h4]; exact .nl
   exact aO
  exact aO
 exact aO
end
end Go.dR
set_option linter.unusedVariables false
set_option linter.unusedSimpArgs false
namespace Go.dR
section
variable {P:Program} {ty:iT} {cx:Cx} {st:St} {m m1 m':Mp} {a:Act} {w w':World} {o:Oper} {out:Out}
theorem foldl_set (vs:List Value) (off:Nat):∀ (i0:Nat) (c:Array Value),off+i0+vs.length<=c.size->
 ((vs.zipIdx i0).foldl (λcs (x:Value×Nat)=>cs.setIfInBounds (off+x.2) x.1) c).size=c.size/\
 ∀ j,((vs.zipIdx i0).foldl (λcs (x:Value×Nat)=>cs.setIfInBounds (off+x.2) x.1) c)[j]? =if off+i0<=j/\j<off+i0+vs.length then vs[j - (off+i0)]? else c[j]? :=by
 induction vs with
 | nil=>intro i0 c h; exact ⟨rfl,λj=>by simp; omega⟩
 | cons v vs ih=>
  intro i0 c h
  simp only [List.length_cons] at h
  simp only [List.zipIdx_cons,List.foldl_cons]
  obtain ⟨h1,h2⟩:=ih (i0+1) (c.setIfInBounds (off+i0) v) (by simp; omega)
  refine ⟨by rw [h1]; simp,λj=> ?_⟩
  rw [h2 j]
  simp only [List.length_cons]
  by_cases hj:j=off+i0
  ·subst hj
   rw [if_neg (by omega),if_pos (by omega)]
   simp [show off+i0<c.size by omega]
  by_cases h3:off+(i0+1)<=j/\j<off+(i0+1)+vs.length
  ·rw [if_pos h3,if_pos (by omega),show j - (off+i0)=(j - (off+(i0+1)))+1 by omega,List.getElem?_cons_succ]
  rw [if_neg h3,if_neg (by omega),Array.getElem?_setIfInBounds_ne (by omega)]
def amP (cx:Cx) (m:Mp) (w:World) (lb:Nat->Option fE):List (Nat×AV)->List (Nat×Value)->Prop
 | [],[]=>True
 | (i,v)::r,(j,u)::s=>i=j/\RA cx m w lb v u/\amP cx m w lb r s
 | _,_=>False
theorem Aq {lb:Nat->Option fE} (place:Nat->Option (Nat×Nat)) (aps:List (Nat×AV)):∀ (vps:List (Nat×Value)) (cs:List AC) (c:Array Value) (cs':List AC),amP cx m w lb aps vps->c.size=cs.length->
 (∀ j,j<cs.length->∃ u,c[j]? =some u/\fD cx m w lb (cs.getD j .undef) u)->iY place cs aps=some cs'->
 ∃ c',Instr.fill place c vps=some c'/\c'.size=cs'.length/\cs'.length=cs.length/\∀ j,j<cs'.length->∃ u,c'[j]? =some u/\fD cx m w lb (cs'.getD j .undef) u:=by
 induction aps with
 | nil=>
  intro vps cs c cs' hl hsz hc hf
  cases vps with
  | nil=>
   simp only [iY,Option.some.injEq] at hf
   subst hf
   exact ⟨c,rfl,hsz,rfl,hc⟩
  | cons _ _=>exact hl.elim
 | cons p r ih=>
  intro vps cs c cs' hl hsz hc hf
  cases vps with
  | nil=>obtain ⟨i,v⟩:=p; exact hl.elim
  | cons q vr=>
   obtain ⟨i,av⟩:=p
   obtain ⟨i',v⟩:=q
   obtain ⟨rfl,hra,hl⟩:=hl
   cases av with
   | u x=>
    simp only [iY] at hf
    split at hf
    ·rename_i off n hp
     split at hf
     ·rename_i hcond
      obtain ⟨e1,e2,e3⟩:=hcond
      obtain ⟨g1,g2⟩:=vw e2 hra
      have e4:off+x.cells.length<=cs.length:=by omega
      obtain ⟨f1,f2⟩:=foldl_set v.cells.toList off 0 c (by simp; omega)
      have hfold:v.cells.zipIdx.foldl (λcs (x:Value×Nat)=>cs.setIfInBounds (off+x.2) x.1) c=(v.cells.toList.zipIdx 0).foldl (λcs (x:Value×Nat)=>cs.setIfInBounds (off+x.2) x.1) c:=by
       rw [<- Array.foldl_toList,Array.toList_zipIdx]
      obtain ⟨c',k1,k2,k3,k4⟩:=ih vr (splice cs off x.cells) ((v.cells.toList.zipIdx 0).foldl (λcs (x:Value×Nat)=>cs.setIfInBounds (off+x.2) x.1) c) cs' hl
       (by rw [f1,jJ _ _ _ e4,hsz]) (λj hj=>by
        rw [jJ _ _ _ e4] at hj
        rw [f2 j,List.getD_eq_getElem?_getD,nU _ _ _ e4]
        simp only [Nat.add_zero,Array.length_toList,g1]
        by_cases hin:off<=j/\j<off+x.cells.length
        ·rw [if_pos hin,if_pos hin]
         obtain ⟨u,hu,hr⟩:=g2 (j - off) (by omega)
         exact ⟨u,by simpa using hu,by rw [<- List.getD_eq_getElem?_getD]; exact hr⟩
        rw [if_neg hin,if_neg hin, <- List.getD_eq_getElem?_getD]
        exact hc j hj) hf
      refine ⟨c',?_,k2,by rw [k3,jJ _ _ _ e4],k4⟩
      simp only [Instr.fill,hp]
      rw [if_neg (by simp; omega),hfold]
      exact k1
     cases hf
    ·cases hf
   | Jy l=>simp [iY] at hf
   | cnd b x=>simp [iY] at hf
theorem Bl (R:Rel cx st m a w) (ps:Array (Nat×Operand)) :
 amP cx m w (lk st.lb) ((ps.toList.map (·.1)).zip (valsOf st (ps.toList.map (·.2)))) (ps.map λ(x:Nat×Operand)=>(x.1,a.eval x.2)).toList:=by
 obtain ⟨ps⟩:=ps
 simp only [List.map_toArray]
 induction ps with
 | nil=>trivial
 | cons p r ih=>exact ⟨rfl,R.val p.2,ih⟩
theorem sV {t:Nat} {i:TI} (hE:aI P t i) {z:Value} (h5:z.cells.toList=i.zero) (lb:Nat->Option fE) :
 z.cells.size=(i.zero.map Dn).length/\∀ j,j<(i.zero.map Dn).length->∃ u,z.cells[j]? =some u/\fD cx m w lb ((i.zero.map Dn).getD j .undef) u:=by
 rw [<- h5]
 refine ⟨by simp,λj hj=> ?_⟩
 simp only [List.length_map,Array.length_toList] at hj
 exact ⟨z.cells[j],by simp [hj],by simpa [hj,List.getD_eq_getElem?_getD] using wK lb z.cells[j]⟩
theorem Je (hty:iP P ty) (fs:List Field) (hall:fs.all (λf=>(ty f.type).isSome)=true) :
 ∃ places,fs.mapM (λf=>(P.info? f.type).map λi=>(f.offset,i.size))=some places/\∀ i,places.toArray[i]? =jY ty fs i:=by
 induction fs with
 | nil=>exact ⟨[],rfl,λi=>by simp [jY]⟩
 | cons f r ih=>
  simp only [List.all_cons,Bool.and_eq_true] at hall
  obtain ⟨i,hi⟩:=Option.isSome_iff_exists.1 hall.1
  obtain ⟨info,z,h1,h2,_⟩:=(hty _ i hi).info
  obtain ⟨places,e1,e2⟩:=ih hall.2
  refine ⟨(f.offset,i.size)::places,by simp [List.mapM_cons,h1,e1,h2],λj=> ?_⟩
  cases j with
  | zero=>simp [jY,hi]
  | succ j=>simpa [jY] using e2 j
theorem UZ (hty:iP P ty) (R:Rel cx st m a w) {t:Nat} {ps:Array (Nat×Operand)} (ho:o.op= .build t ps)
 (aY:((wX ty t ((ps.toList.map (·.1)).zip (valsOf st (ps.toList.map (·.2))))).run st).nO) :
 Good P cx st a w o ((wX ty t ((ps.toList.map (·.1)).zip (valsOf st (ps.toList.map (·.2))))).run st):=by
 have q1:=Bl R ps
 generalize ((ps.toList.map (·.1)).zip (valsOf st (ps.toList.map (·.2))))=aps at*
 revert aY
 unfold wX
 split
 ·rename_i sz by' ag z fs en hi
  have hT:=hty t _ hi
  obtain ⟨info,zv,h1,h2,h3,h4,h5⟩:=hT.info
  split
  ·rename_i hall
   obtain ⟨places,e1,e2⟩:=Je hty fs.toList hall
   split
   ·rename_i cs' hf
    intro _
    obtain ⟨z1,z2⟩:=sV (cx:=cx) (m:=m) (w:=w) hT h5 (lk st.lb)
    obtain ⟨c',k1,k2,k3,k4⟩:=Aq (cx:=cx) (m:=m) (w:=w) (lb:=lk st.lb) _ aps _ _ zv.cells cs' q1 z1 z2 hf
    refine dN R (u:= .agg c') ?_ ⟨c',rfl,k2,k4⟩
    have hb:P.built t (ps.map λ(x:Nat×Operand)=>(x.1,a.eval x.2)).toList=some c':=by
     unfold Program.built
     have hpl:(λx=>places.toArray[x]?)=jY ty fs.toList:=funext e2
     simp only [h1,hT.und,h4,e1,hpl,k1]
    simp only [execOp,ho,Sem.run_bind,run_build w t _ _ hb,Result.andThen_ok,Sem.run_pure]
   exact aO
  exact aO
 ·rename_i sz by' ag z n e en hi
  have hT:=hty t _ hi
  obtain ⟨info,zv,h1,h2,h3,h4,h5⟩:=hT.info
  split
  ·rename_i ie he
   obtain ⟨aGn,ez,g1,g2,_⟩:=(hty e ie he).info
   split
   ·rename_i cs' hf
    intro _
    obtain ⟨z1,z2⟩:=sV (cx:=cx) (m:=m) (w:=w) hT h5 (lk st.lb)
    obtain ⟨c',k1,k2,k3,k4⟩:=Aq (cx:=cx) (m:=m) (w:=w) (lb:=lk st.lb) _ aps _ _ zv.cells cs' q1 z1 z2 hf
    refine dN R (u:= .agg c') ?_ ⟨c',rfl,k2,k4⟩
    have hb:P.built t (ps.map λ(x:Nat×Operand)=>(x.1,a.eval x.2)).toList=some c':=by
     unfold Program.built
     simp only [h1,hT.und,h4,g1,g2,k1]
    simp only [execOp,ho,Sem.run_bind,run_build w t _ _ hb,Result.andThen_ok,Sem.run_pure]
   exact aO
  exact aO
 exact aO
theorem lN {α:Type} (l:List α) (n:Nat):(zO l n).length=n*l.length:=by
 induction n with
 | zero=>simp [zO]
 | succ n ih=>simp [zO,ih,Nat.add_mul,Nat.add_comm]
theorem Pq {α:Type} (l:List α) (n:Nat):∀ j,j<n*l.length->(zO l n)[j]? =l[j % l.length]? :=by
 induction n with
 | zero=>intro j hj; simp at hj
 | succ n ih=>
  intro j hj
  simp only [zO]
  by_cases h:j<l.length
  ·rw [List.getElem?_append_left h,Nat.mod_eq_of_lt h]
  rw [List.getElem?_append_right (by omega),ih _ (by rw [Nat.add_mul] at hj; omega), <- Nat.mod_eq_sub_mod (by omega)]
theorem qY {α:Type} (s:Nat) (l:List α) (n:Nat):(chunks s l n).length=n:=by
 induction n generalizing l with
 | zero=>rfl
 | succ n ih=>simp [chunks,ih]
theorem yQ {α:Type} [Inhabited α] (s:Nat) (l:List α) (n:Nat) (hl:l.length=n*s) (i:Nat) (hi:i<n) :
 ((chunks s l n).getD i []).length=s/\∀ j,j<s->((chunks s l n).getD i [])[j]? =l[i*s+j]? :=by
 induction n generalizing l i with
 | zero=>omega
 | succ n ih=>
  rw [Nat.add_mul,Nat.one_mul] at hl
  cases i with
  | zero=>simp [chunks]; exact ⟨by omega,λj hj=>by simp [hj]⟩
  | succ i=>
   have:=ih (l.drop s) (by simp; omega) i (by omega)
   simp only [chunks,List.getD_cons_succ]
   refine ⟨this.1,λj hj=> ?_⟩
   rw [this.2 j hj,List.getElem?_drop]
   congr 1
   rw [Nat.add_mul]; omega
end
end Go.dR
set_option linter.unusedVariables false
set_option linter.unusedSimpArgs false
namespace Go.dR
section
variable {P:Program} {ty:iT} {cx:Cx} {st:St} {m m1 m':Mp} {a:Act} {w w':World} {o:Oper} {out:Out}
theorem Gz {l:List AC} {j:Nat} (hj:j<l.length):∀ k∈jm [l.getD j .undef],k∈jm l:=by
 intro k hk
 simp only [jm,List.mem_filterMap,List.mem_singleton] at*
 obtain ⟨x,rfl,hx⟩:=hk
 exact ⟨_,by rw [List.getD_eq_getElem?_getD,List.getElem?_eq_getElem hj]; exact List.getElem_mem _,hx⟩
theorem Eb (hty:iP P ty) (R:Rel cx st m a w) {lin:Bool} {nm t len:Nat} {ps:Array (Nat×Operand)} (ho:o.op= .buildSlice t len ps)
 (aY:((jD ty lin nm t len ((ps.toList.map (·.1)).zip (valsOf st (ps.toList.map (·.2))))).run st).nO) :
 Good P cx st a w o ((jD ty lin nm t len ((ps.toList.map (·.1)).zip (valsOf st (ps.toList.map (·.2))))).run st):=by
 revert aY
 unfold jD
 split
 ·rename_i sz by' ag ze e en hi
  split
  ·rename_i i he
   have hE:=hty e i he
   obtain ⟨info,z,h1,h2,h3,h4,h5⟩:=hE.info
   have hzs:z.cells.size=i.size:=by rw [<- Array.length_toList,h5,hE.IU]
   split
   ·rename_i cs hf
    by_cases hrf:jW cs=true
    ·rw [if_pos hrf]
     by_cases hlin:lin=true
     ·rw [if_pos hlin]
      rcases yj st nm (λb=> .ret ⟨(len*i.size<=16777216/\len*i.size≠0)/\cs.all AC.solid=true,.c (.xg b 0 len i.size),[.box b cs]⟩) with ⟨b,hb,h⟩ | h
      ·rw [h]
       simp only [Rd.run]
       intro aY
       have q1:=Bl R ps
       obtain ⟨z1,z2⟩:=sV (cx:=cx) (m:=m) (w:=w) hE h5 (lk st.lb)
       have hz0:i.zero.length=i.size:=hE.IU
       have hsz0:((Array.range (len*i.size)).map (z.cells[· % z.cells.size]!)).size=(zO (i.zero.map Dn) len).length:=by simp [lN,hz0]
       obtain ⟨c',f1,f2,f3,f4⟩:=Aq (cx:=cx) (m:=m) (w:=w) (lb:=lk st.lb) (λj=>some (j*i.size,i.size)) _ _ (zO (i.zero.map Dn) len)
        ((Array.range (len*i.size)).map (z.cells[· % z.cells.size]!)) cs q1 hsz0 (λj hj=>by
         rw [lN,List.length_map,hz0] at hj
         have hpos:0<i.size:=by
          rcases Nat.eq_zero_or_pos i.size with h | h
          ·rw [h] at hj; simp at hj
          exact h
         have hm:j % z.cells.size<z.cells.size:=Nat.mod_lt _ (by omega)
         obtain ⟨u,hu,hr⟩:=z2 (j % z.cells.size) (by rw [<- z1]; exact hm)
         refine ⟨u,?_,?_⟩
         ·have QA:z.cells[j % z.cells.size]! =z.cells[j % z.cells.size]'hm:=getElem!_pos z.cells _ hm
          have:z.cells[j % z.cells.size]'hm=u:=by simpa [hm] using hu
          simp [hj,QA,this]
         rw [List.getD_eq_getElem?_getD,Pq _ _ _ (by rw [List.length_map,hz0]; exact hj), <- z1, <- List.getD_eq_getElem?_getD]
         exact hr) hf
       have hlen:cs.length=len*i.size:=by rw [f3,lN,List.length_map,hz0]
       have hrun:=run_buildSlice (P:=P) w t e len (ps.map λ(x:Nat×Operand)=>(x.1,a.eval x.2)) c' info z (hty t _ hi).und h1 h4 (by rw [h2]; omega) (by rw [h2]; exact aY.1.2) (by rw [h2]; exact f1)
       refine Good.val (m':=⟨m.own,upd m.box b (some w.heap.size),m.inn,m.mp⟩) (w':= { w with heap:=w.heap.push (.cells c' e (0,0)) }) (v:= .slice (some ⟨w.heap.size,0,none⟩) len len) ?_ (R.jU hb (by rw [f2,hlen]) f4) ⟨w.heap.size,len,upd_same _ _ _,Nat.le_refl _,rfl⟩
       simp only [execOp,ho,Sem.run_bind,hrun,Result.andThen_ok,Sem.run_pure]
       rfl
      rw [h]; exact λh=>h.elim
     rw [if_neg hlin]; exact aO
    rw [if_neg hrf]
    rcases qP R cs (λws=>uy cs λds=>xK lin nm (len*i.size<=16777216/\i.zero.length=i.size/\0<i.size) (D.ofList i.size (chunks i.size ds len)) ws) with ⟨ws,m1,k1,R1,hup,hsh⟩ | k1
    ·rw [k1]
     rcases YO st cs (λds=>xK lin nm (len*i.size<=16777216/\i.zero.length=i.size/\0<i.size) (D.ofList i.size (chunks i.size ds len)) ws) with ⟨ds,hds,k2⟩ | k2
     ·rw [k2]
      intro aY
      have q1:=Bl R1 ps
      rw [sW] at q1
      obtain ⟨z1,z2⟩:=sV (cx:=cx) (m:=m1) (w:=w) hE h5 (lk (bK st ws).lb)
      have hz0:i.zero.length=i.size:=hE.IU
      have hsz0:((Array.range (len*i.size)).map (z.cells[· % z.cells.size]!)).size=(zO (i.zero.map Dn) len).length:=by simp [lN,hz0]
      obtain ⟨c',f1,f2,f3,f4⟩:=Aq (cx:=cx) (m:=m1) (w:=w) (lb:=lk (bK st ws).lb) (λj=>some (j*i.size,i.size)) _ _ (zO (i.zero.map Dn) len)
       ((Array.range (len*i.size)).map (z.cells[· % z.cells.size]!)) cs q1 hsz0 (λj hj=>by
        rw [lN,List.length_map,hz0] at hj
        have hpos:0<i.size:=by
         rcases Nat.eq_zero_or_pos i.size with h | h
         ·rw [h] at hj; simp at hj
         exact h
        have hm:j % z.cells.size<z.cells.size:=Nat.mod_lt _ (by omega)
        obtain ⟨u,hu,hr⟩:=z2 (j % z.cells.size) (by rw [<- z1]; exact hm)
        refine ⟨u,?_,?_⟩
        ·have QA:z.cells[j % z.cells.size]! =z.cells[j % z.cells.size]'hm:=getElem!_pos z.cells _ hm
         have:z.cells[j % z.cells.size]'hm=u:=by simpa [hm] using hu
         simp [hj,QA,this]
        rw [List.getD_eq_getElem?_getD,Pq _ _ _ (by rw [List.length_map,hz0]; exact hj), <- z1, <- List.getD_eq_getElem?_getD]
        exact hr) hf
      have hlen:cs.length=len*i.size:=by rw [f3,lN,List.length_map,hz0]
      have hdl:ds.length=len*i.size:=by rw [hds.1,hlen]
      have hx:(D.ofList i.size (chunks i.size ds len)).len=len:=qY _ _ _
      refine GX R1 (λk hk=>hup.none hk) (w':=w.alloc (.cells c' e)) (c:=c') (T:=e) (cap:=len) (λhp=> ?_) ⟨rfl,rfl,rfl⟩ rfl rfl (λhp=> ?_) (λhp q hq=> ?_) aY
      ·rw [hx]
       by_cases h0:len*i.size=0
       ·have hl0:len=0:=by
         rcases Nat.mul_eq_zero.1 h0 with h | h
         ·exact h
         have:=hp.2.2; omega
        have e0:∀ f:Nat->Value,(Array.range 0).map f= #[]:=λf=>Array.ext' (by simp [Array.toList_range])
        have f1':Instr.fill (λj=>some (j*i.size,i.size)) #[] (ps.map λ(x:Nat×Operand)=>(x.1,a.eval x.2)).toList=some c':=by
         rw [h0,e0] at f1; exact f1
        have hrun:(Instr.buildSlice t len (ps.map λ(x:Nat×Operand)=>(x.1,a.eval x.2))).run P w= .ok (.slice (some ⟨w.heap.size,0,none⟩) len len) (w.alloc (.cells c' e)):=by
         simp only [Instr.buildSlice,Sem.run_bind,run_underlying (hty t _ hi).und,hE.kX,Result.andThen_ok,h0,Sem.run_ite]
         rw [if_neg (by omega),if_pos trivial]
         simp only [Sem.run_pure,Result.andThen_ok,e0,f1',newRow,Sem.run_bind,run_newObj]
         rfl
        simp only [execOp,ho,Sem.run_bind,hrun,Result.andThen_ok,Sem.run_pure]
       have hrun:=run_buildSlice (P:=P) w t e len (ps.map λ(x:Nat×Operand)=>(x.1,a.eval x.2)) c' info z (hty t _ hi).und h1 h4 (by rw [h2]; omega) (by rw [h2]; exact h0) (by rw [h2]; exact f1)
       simp only [execOp,ho,Sem.run_bind,hrun,Result.andThen_ok,Sem.run_pure]
      ·simp only [D.ofList,D.stride,D.len,qY]
       exact ⟨by rw [f2,hlen],Nat.le_refl _⟩
      rw [hx] at hq
      obtain ⟨c1,c2⟩:=yQ i.size ds len hdl q hq
      simp only [D.ofList,D.stride,D.nth]
      refine ⟨c1,λj hj=> ?_⟩
      have hlt:q*i.size+j<cs.length:=by
       rw [hlen]
       have:(q+1)*i.size<=len*i.size:=Nat.mul_le_mul_right _ (by omega)
       rw [Nat.add_mul] at this; omega
      obtain ⟨u,hu,hr⟩:=f4 _ hlt
      refine ⟨u,hu,?_⟩
      rw [List.getD_eq_getElem?_getD,c2 j hj, <- List.getD_eq_getElem?_getD]
      exact R1.tZ (hup.dof (hds.2 _ hlt)) (λk hk=>hsh k (Gz hlt k hk)) hr
     rw [k2]; exact λh=>h.elim
    rw [k1]; exact λh=>h.elim
   exact aO
  exact aO
 exact aO
theorem Xh {t e len cap:Nat} {ie:TI} {ao:Option Addr} (ht:P.underlying t=some (.slice e)) (hE:aI P e ie) {lo hi:Option Value} {l h:Int}
 (hlo:(lo=none/\l=0)\/∃ k,lo=some (.int k l)) (hhi:(hi=none/\h=len)\/∃ k,hi=some (.int k h)) (h0:0<=l) (h1:l<=h) (h2:h<=len) (h3:len<=cap) :
 (Instr.sliceAt t (.slice ao len cap) lo hi none).run P w= .ok (.slice (if cap=l.toNat then ao else ao.map (·.add (l.toNat*ie.size))) (h.toNat - l.toNat) (cap - l.toNat)) w:=by
 have hb:(Instr.sliceBounds true len cap lo hi none).run P w= .ok (l.toNat,h.toNat,cap) w:=by
  rcases hlo with ⟨rfl,rfl⟩ | ⟨k1,rfl⟩<;>rcases hhi with ⟨rfl,rfl⟩ | ⟨k2,rfl⟩
  ·simp [Instr.sliceBounds]
  ·simp [Instr.sliceBounds,Instr.sliceBound,asIntOf,show 0<=h by omega,show h<=(cap:Int) by omega]
  ·simp [Instr.sliceBounds,Instr.sliceBound,asIntOf,h0,show l<=(len:Int) by omega]
  have e1:max h 0=h:=by omega
  simp [Instr.sliceBounds,Instr.sliceBound,asIntOf,h0,h1,show 0<=h by omega,show h<=(cap:Int) by omega,e1]
 simp only [Instr.sliceAt,Instr.slice,Sem.run_bind,run_underlying ht,Result.andThen_ok,hb,hE.kX,Sem.run_pure]
end
end Go.dR
set_option linter.unusedVariables false
set_option linter.unusedSimpArgs false
namespace Go.dR
section
variable {P:Program} {ty:iT} {cx:Cx} {st:St} {m m1 m':Mp} {a:Act} {w w':World} {o:Oper} {out:Out}
theorem D.ajZ {S:Nat->Prop} {x:D} {v:Value} (hs:x.cu=true) (h:RD w S x v) {l r s:Nat} (hlr:l<=r) (hr:r<=x.len) (hst:x.len≠0->x.stride=s) :
 ∃ ao cap,v= .slice ao x.len cap/\(x.len<=cap->RD w S (x.sub l r) (.slice (if cap=l then ao else ao.map (·.add (l*s))) (r - l) (cap - l)))/\(x.len=0\/x.len<=cap):=by
 cases h with
 | sl0 s' g ao cap=>
  simp only [D.len] at hr
  refine ⟨ao,cap,rfl,λ_=> ?_,.inl rfl⟩
  have:r - l=0:=by omega
  simp only [D.sub,this]
  exact .sl0 _ _ _ _
 | sl s' n' g B q cap f hn hcap hB hS hl hc hrr=>
  simp only [D.len,D.stride] at hr hst
  refine ⟨some ⟨B,q,none⟩,cap,rfl,λ_=> ?_,.inr hcap⟩
  have hst':=hst (by omega)
  subst hst'
  by_cases h0:r - l=0
  ·simp only [D.sub,h0]; exact .sl0 _ _ _ _
  ·rw [if_neg (by omega),Option.map_some,addr_add]
   refine .sl _ _ _ B (q+l*s') _ (λi j=>f (l+i) j) (by omega) (by omega) hB hS (λi hi=>hl _ (by omega)) (λi j hi hj=> ?_) (λi j hi hj=>hrr _ _ (by omega) hj)
   have:=hc (l+i) j (by omega) hj
   rw [Nat.add_mul] at this
   simp only [D.stride] at hj ⊢
   rw [show q+l*s'+(i*s'+j)=q+(l*s'+i*s'+j) by omega]
   exact this
 | _=>simp [D.cu] at hs
theorem o7 {lb:Nat->Option fE} {x:Option Operand} {dft:Nat} {n:Int} (h:bound (x.map (valOf st)) dft=some n) (hv:∀ y,x=some y->RA cx m w lb (valOf st y) (a.eval y)) :
 (x.map a.eval=none/\n=dft)\/∃ k,x.map a.eval=some (.int k n):=by
 cases x with
 | none=>simp [bound] at h; exact .inl ⟨rfl,h.symm⟩
 | some y=>
  have hy:=hv y rfl
  simp only [Option.map_some] at h ⊢
  generalize valOf st y=av at*
  unfold bound at h
  split at h
  ·rename_i heq; cases heq
  ·rename_i k n' heq
   obtain rfl:=Option.some.inj heq
   obtain rfl:=Option.some.inj h
   exact .inr ⟨k,by rw [jl hy]⟩
  cases h
theorem abq {t e n B q:Nat} {ie:TI} (ht:P.underlying t=some (.array n e)) (hE:aI P e ie) {lo hi:Option Value} {l h:Int}
 (hlo:(lo=none/\l=0)\/∃ k,lo=some (.int k l)) (hhi:(hi=none/\h=n)\/∃ k,hi=some (.int k h)) (h0:0<=l) (h1:l<=h) (h2:h<=n) (h3:l<n) :
 (Instr.sliceAt t (.pointer (some ⟨B,q,none⟩)) lo hi none).run P w= .ok (.slice (some ⟨B,q+l.toNat*ie.size,none⟩) (h.toNat - l.toNat) (n - l.toNat)) w:=by
 have hb:(Instr.sliceBounds false n n lo hi none).run P w= .ok (l.toNat,h.toNat,n) w:=by
  rcases hlo with ⟨rfl,rfl⟩ | ⟨k1,rfl⟩<;>rcases hhi with ⟨rfl,rfl⟩ | ⟨k2,rfl⟩
  ·simp [Instr.sliceBounds]
  ·simp [Instr.sliceBounds,Instr.sliceBound,asIntOf,show 0<=h by omega,show h<=(n:Int) by omega]
  ·simp [Instr.sliceBounds,Instr.sliceBound,asIntOf,h0,show l<=(n:Int) by omega]
  have e1:max h 0=h:=by omega
  simp [Instr.sliceBounds,Instr.sliceBound,asIntOf,h0,h1,show 0<=h by omega,show h<=(n:Int) by omega,e1]
 have hs:(Instr.sureAddr (.pointer (some ⟨B,q,none⟩))).run P w= .ok ⟨B,q,none⟩ w:=by simp [Instr.sureAddr]
 simp only [Instr.sliceAt,Sem.run_bind,run_underlying ht,Result.andThen_ok,hs,hb,hE.kX,Sem.run_pure]
 rw [if_neg (by omega),addr_add]
theorem abp {t:Nat} {s:ByteArray} (ht:P.underlying t=some .string) {lo hi:Option Value} {l h:Int}
 (hlo:(lo=none/\l=0)\/∃ k,lo=some (.int k l)) (hhi:(hi=none/\h=s.size)\/∃ k,hi=some (.int k h)) (h0:0<=l) (h1:l<=h) (h2:h<=s.size) :
 (Instr.sliceAt t (.string s) lo hi none).run P w= .ok (.string (s.extract l.toNat h.toNat)) w:=by
 have hb:(Instr.sliceBounds false s.size s.size lo hi none).run P w= .ok (l.toNat,h.toNat,s.size) w:=by
  rcases hlo with ⟨rfl,rfl⟩ | ⟨k1,rfl⟩<;>rcases hhi with ⟨rfl,rfl⟩ | ⟨k2,rfl⟩
  ·simp [Instr.sliceBounds]
  ·simp [Instr.sliceBounds,Instr.sliceBound,asIntOf,show 0<=h by omega,show h<=(s.size:Int) by omega]
  ·simp [Instr.sliceBounds,Instr.sliceBound,asIntOf,h0,show l<=(s.size:Int) by omega]
  have e1:max h 0=h:=by omega
  simp [Instr.sliceBounds,Instr.sliceBound,asIntOf,h0,h1,show 0<=h by omega,show h<=(s.size:Int) by omega,e1]
 simp [Instr.sliceAt,Instr.slice,run_underlying ht,hb]
theorem tH (hty:iP P ty) (R:Rel cx st m a w) {t:Nat} {x:Operand} {lo hi mx:Option Operand} (ho:o.op= .slice t x lo hi mx)
 (aY:((kP ty t (valOf st x) (lo.map (valOf st)) (hi.map (valOf st)) mx.isSome).run st).nO) :
 Good P cx st a w o ((kP ty t (valOf st x) (lo.map (valOf st)) (hi.map (valOf st)) mx.isSome).run st):=by
 revert aY
 unfold kP
 split
 ·rename_i sz by' ag ze e en ie hi' he
  obtain ⟨ht,hE⟩:=tV hty hi' rfl he
  split
  ·rename_i y hxe
   rcases qP R [y] (λws=>Jz y λd=>Kz ie (lo.map (valOf st)) (hi.map (valOf st)) mx.isSome d ws) with ⟨ws,m1,k1,R1,hup,hsh⟩ | k1
   ·rw [k1]
    rcases wH st y (λd=>Kz ie (lo.map (valOf st)) (hi.map (valOf st)) mx.isSome d ws) with ⟨d,hd,k2⟩ | k2
    ·rw [k2]
     unfold Kz
     split
     ·rename_i l h hl hh
      intro aY
      simp only [Rd.run] at aY ⊢
      obtain ⟨hm,hs,hst,b1,b2,b3⟩:=aY
      have hx:=R1.val x
      rw [Jw,hxe] at hx
      have hrd:=R1.tZ (hup.dof hd) hsh hx
      have g1:=o7 (cx:=cx) (m:=m) (w:=w) (lb:=lk st.lb) hl (λy _=>R.val y)
      have g2:=o7 (cx:=cx) (m:=m) (w:=w) (lb:=lk st.lb) hh (λy _=>R.val y)
      obtain ⟨ao,cap,hv,hsub,hcap⟩:=D.ajZ hs hrd (l:=l.toNat) (r:=h.toNat) (s:=ie.size) (by omega) (by omega) hst
      have hmx:mx=none:=by cases mx<;>simp_all
      have key:∀ u,(Instr.sliceAt t (a.eval x) (lo.map a.eval) (hi.map a.eval) none).run P w= .ok u w->(execOp a.eval o).run P w= .ok (.value u) w:=by
       intro u h
       simp [execOp,ho,hmx,h]
      rcases hcap with h0 | hcap
      ·
       have e1:l=0:=by omega
       have e2:h=0:=by omega
       subst e1 e2
       by_cases hc:d.len<=cap
       ·refine Good.val (m':=m1) (key _ ?_) R1 (hsub hc)
        rw [hv]
        exact Xh ht hE (by simpa using g1) g2 (by omega) (by omega) (by omega) hc
       omega
      refine Good.val (m':=m1) (key _ ?_) R1 (hsub hcap)
      rw [hv]
      exact Xh ht hE (by simpa using g1) g2 b1 b2 b3 hcap
     exact aO
    rw [k2]; exact λh=>h.elim
   rw [k1]; exact λh=>h.elim
  exact aO
 ·rename_i sz by' ag ze n e en ie hi' he
  obtain ⟨ht,hE⟩:=tX hty hi' rfl he
  split
  ·rename_i b off hxe
   split
   ·rename_i l h hl hh
    intro aY
    simp only [Rd.run] at aY ⊢
    obtain ⟨hm,⟨b1,b2,b3⟩,b4⟩:=aY
    have hx:=R.val x
    rw [hxe] at hx
    obtain ⟨B,hB,hp⟩:=hx
    have g1:=o7 (cx:=cx) (m:=m) (w:=w) (lb:=lk st.lb) hl (λy _=>R.val y)
    have g2:=o7 (cx:=cx) (m:=m) (w:=w) (lb:=lk st.lb) hh (λy _=>R.val y)
    have hmx:mx=none:=by cases mx<;>simp_all
    refine Good.val (m':=m) (w':=w) (v:= .slice (some ⟨B,off+l.toNat*ie.size,none⟩) (h.toNat - l.toNat) (n - l.toNat)) ?_ R ⟨B,n - l.toNat,hB,by omega,rfl⟩
    have g1':(lo.map a.eval=none/\l=0)\/∃ k,lo.map a.eval=some (.int k l):=by
     rcases g1 with ⟨q1,q2⟩ | q1
     ·exact .inl ⟨q1,by simpa using q2⟩
     exact .inr q1
    have hr:=abq (P:=P) (w:=w) (B:=B) (q:=off) ht hE g1' g2 b1 b2 b3 b4
    rw [<- hp] at hr
    simp [execOp,ho,hmx,hr]
   exact aO
  exact aO
 ·rename_i sz by' ag ze en hi'
  have ht:=(hty t _ hi').und
  split
  ·rename_i s hxe
   split
   ·rename_i l h hl hh
    intro aY
    simp only [Rd.run] at aY ⊢
    obtain ⟨hm,b1,b2,b3⟩:=aY
    have hx:=R.val x
    rw [hxe] at hx
    have hx':a.eval x= .string s:=by
     generalize a.eval x=v at hx
     cases hx; rfl
    have g1:=o7 (cx:=cx) (m:=m) (w:=w) (lb:=lk st.lb) hl (λy _=>R.val y)
    have g2:=o7 (cx:=cx) (m:=m) (w:=w) (lb:=lk st.lb) hh (λy _=>R.val y)
    have hmx:mx=none:=by cases mx<;>simp_all
    refine Good.val (m':=m) (w':=w) (v:= .string (s.extract l.toNat h.toNat)) ?_ R (RD.str _)
    have g1':(lo.map a.eval=none/\l=0)\/∃ k,lo.map a.eval=some (.int k l):=by
     rcases g1 with ⟨q1,q2⟩ | q1
     ·exact .inl ⟨q1,by simpa using q2⟩
     exact .inr q1
    have hr:=abp (P:=P) (w:=w) (s:=s) ht g1' g2 b1 b2 b3
    rw [<- hx'] at hr
    simp [execOp,ho,hmx,hr]
   exact aO
  exact aO
 exact aO
end
end Go.dR
set_option linter.unusedVariables false
set_option linter.unusedSimpArgs false
namespace Go.dR
section
variable {P:Program} {ty:iT} {cx:Cx} {st:St} {m m1 m':Mp} {a:Act} {w w':World} {o:Oper} {out:Out}
theorem Rel.elems (R:Rel cx st m a w) {y:AC} {d:D} {v:Value} (hd:DOf (lk st.lb) y d) (hx:fD cx m w (lk st.lb) y v) (hs:d.cu=true) :
 ∃ ao cap,v= .slice ao d.len cap/\(d.len=0\/∃ B q,ao=some ⟨B,q,none⟩/\∀ i,i<d.len->(d.nth i).length=d.stride/\∀ j,j<d.stride->∃ u,w.cell? ⟨B,q+(i*d.stride+j),none⟩=some u/\RD w (fP cx m) ((d.nth i).getD j .undef) u):=by
 have hrd:∀ {x:D},x.cu=true->RD w (fP cx m) x v->∃ ao cap,v= .slice ao x.len cap/\(x.len=0\/∃ B q,ao=some ⟨B,q,none⟩/\∀ i,i<x.len->(x.nth i).length=x.stride/\∀ j,j<x.stride->∃ u,w.cell? ⟨B,q+(i*x.stride+j),none⟩=some u/\RD w (fP cx m) ((x.nth i).getD j .undef) u):=by
  intro x hs h
  cases h with
  | sl0 s g ao cap=>exact ⟨ao,cap,rfl,.inl rfl⟩
  | sl s n g B q cap f hn hcap hB hS hl hc hr=>exact ⟨_,cap,rfl,.inr ⟨B,q,rfl,λi hi=>⟨hl i hi,λj hj=>⟨f i j,hc i j hi hj,hr i j hi hj⟩⟩⟩⟩
  | _=>simp [D.cu] at hs
 cases y with
 | d y=>obtain rfl:=hd; exact hrd hs hx
 | dF=>
  obtain rfl:=hx
  rcases hd with rfl | rfl
  ·exact ⟨none,0,rfl,.inl rfl⟩
  ·cases hs
 | own k=>
  simp only [fD] at hx
  rcases hd with hd | hd
  ·simp only [hd] at hx
   obtain ⟨hs,hrow⟩:=R.owned k d hd
   cases hB:m.own k with
   | none=>
    simp only [hB,nN] at hx
    obtain ⟨rfl,hn⟩:=hx
    exact ⟨none,0,by rw [hn],.inl hn⟩
   | some B=>
    simp only [hB,nN] at hx
    obtain ⟨cap,c,T,rfl,hc,_,_⟩:=hx
    obtain ⟨c',T',hc',_,hr⟩:=hrow B hB
    refine ⟨_,cap,rfl,.inr ⟨B,0,rfl,λi hi=>⟨(hr i hi).1,λj hj=> ?_⟩⟩⟩
    obtain ⟨u,hu,hd⟩:=(hr i hi).2 j hj
    exact ⟨u,by simp [World.cell?,hc',hu],hd⟩
  ·simp only [hd] at hx
   exact hrd hx.1 hx.2
 | dM l off=>
  cases off with
  | zero=>obtain rfl:=hd; cases hs
  | succ o=>exact hd.elim
 | clo g caps=>
  cases caps with
  | nil=>obtain rfl:=hd; cases hs
  | cons _ _=>exact hd.elim
 | _=>exact hd.elim
theorem oQ {d:D} {v:Value} {ao:Option Addr} {cap size:Nat} {S:Nat->Prop} (hv:v= .slice ao d.len cap) (hst:d.len≠0->d.stride=size)
 (he:d.len=0\/∃ B q,ao=some ⟨B,q,none⟩/\∀ i,i<d.len->(d.nth i).length=d.stride/\∀ j,j<d.stride->∃ u,w.cell? ⟨B,q+(i*d.stride+j),none⟩=some u/\RD w S ((d.nth i).getD j .undef) u) :
 ∃ ns:List Value,ns.length=d.len*size/\(∀ w2:World,w2.heap=w.heap->(Builtin.firstCells size d.len v).run P w2= .ok ns.toArray w2)/\(∀ u∈ns,One u)/\
  ∀ i,i<d.len->(d.nth i).length=size/\∀ j,j<size->∃ u,ns[i*size+j]? =some u/\RD w S ((d.nth i).getD j .undef) u:=by
 by_cases h0:d.len=0
 ·refine ⟨[],by simp [h0],λw2 _=> ?_,by simp,λi hi=>by omega⟩
  rw [hv,h0]
  cases ao with
  | none=>exact run_firstCells_none (P:=P) w2 size 0 0 cap
  | some b=>simp [Builtin.firstCells,loadCells,loadCellsFrom]
 rcases he with he | ⟨B,q,rfl,he⟩
 ·exact absurd he h0
 have hst':=hst h0
 subst hst'
 have hcell:∀ r,r<d.len*d.stride->∃ u,w.cell? ⟨B,q+r,none⟩=some u/\One u:=by
  intro r hr
  have hpos:0<d.stride:=by
   rcases Nat.eq_zero_or_pos d.stride with h | h
   ·rw [h] at hr; simp at hr
   exact h
  have h1:r / d.stride<d.len:=by rw [Nat.div_lt_iff_lt_mul hpos]; exact hr
  obtain ⟨u,hu,hd⟩:=(he (r / d.stride) h1).2 (r % d.stride) (Nat.mod_lt _ hpos)
  rw [Nat.mul_comm,Nat.div_add_mod] at hu
  exact ⟨u,hu,hd.one⟩
 have hns:∀ r,r<d.len*d.stride->((List.range (d.len*d.stride)).map λr=>(w.cell? ⟨B,q+r,none⟩).getD undef)[r]? =w.cell? ⟨B,q+r,none⟩:=by
  intro r hr
  obtain ⟨u,hu,_⟩:=hcell r hr
  simp [hr,hu]
 refine ⟨(List.range (d.len*d.stride)).map λr=>(w.cell? ⟨B,q+r,none⟩).getD undef,by simp,λw2 hw2=> ?_,λu hu=> ?_,λi hi=>⟨(he i hi).1,λj hj=> ?_⟩⟩
 ·rw [hv]
  refine run_firstCells_some (P:=P) w2 d.stride d.len ⟨B,q,none⟩ d.len cap _ (by simp) (λr u hu=> ?_)
  have hr:r<d.len*d.stride:=by
   have:=(List.getElem?_eq_some_iff.1 hu).1
   simpa using this
  rw [hns r hr] at hu
  rw [addr_add]
  simpa [World.cell?,hw2] using hu
 ·simp only [List.mem_map,List.mem_range] at hu
  obtain ⟨r,hr,rfl⟩:=hu
  obtain ⟨u,hu,h1⟩:=hcell r hr
  simpa [hu] using h1
 have hlt:i*d.stride+j<d.len*d.stride:=by
  have:(i+1)*d.stride<=d.len*d.stride:=Nat.mul_le_mul_right _ hi
  rw [Nat.add_mul] at this; omega
 obtain ⟨u,hu,hd⟩:=(he i hi).2 j hj
 exact ⟨u,by rw [hns _ hlt]; exact hu,hd⟩
theorem tq {t u e e' oty:Nat} {ie:TI} (ht:P.underlying t=some (.slice e)) (hu:P.underlying u=some (.slice e')) (hE:aI P e ie) {bo xo:Option Addr} {sl sc n xc:Nat} {ns olds:List Value}
 (hx:∀ w2:World,w2.heap=w.heap->(Builtin.firstCells ie.size n (.slice xo n xc)).run P w2= .ok ns.toArray w2)
 (hs:∀ w2:World,w2.heap=w.heap->(Builtin.firstCells ie.size sl (.slice bo sl sc)).run P w2= .ok olds.toArray w2)
 (hgrow:sc<sl+n) (h63:sl+n<=9223372036854775807) (hb:(sl+n)*ie.bytes<=140737488355328) :
 ∃ (w':World) (cap:Nat) (z:Value),sl+n<=cap/\z.cells.toList=ie.zero/\dS w w'/\w'.heap=w.heap.push (.cells (olds.toArray++ns.toArray++Builtin.zeroCells z.cells (cap - (sl+n))) e (0,0))/\
  (Builtin.append_ #[t,u] oty #[.slice bo sl sc,.slice xo n xc]).run P w= .ok (.slice (some ⟨w.heap.size,0,none⟩) (sl+n) cap) w':=by
 obtain ⟨info,z,h1,h2,h3,h4,h5⟩:=hE.info
 have hn:¬ (sl+n<=sc):=by omega
 have h63':¬ (9223372036854775807<((sl:Int)+(n:Int))):=by omega
 have hfit:=growslice_fits (need:=sl+n) (old:=sc) (bytes:=ie.bytes) hgrow hb
 have h48':¬ (281474976710656<Builtin.nextslicecap (sl+n) sc*info.bytes):=by rw [h3]; omega
 have hf:=hx w.drew rfl
 have hfo:=hs w.drew rfl
 rw [<- h2] at hf hfo
 refine ⟨w.drew.alloc (.cells (olds.toArray++ns.toArray++Builtin.zeroCells z.cells (grownCap w (sl+n) sc e - (sl+n))) e),grownCap w (sl+n) sc e,z,?_,h5,⟨rfl,rfl,rfl⟩,rfl,?_⟩
 ·simp [grownCap,Question.cut]
 simp [Builtin.append_,run_underlying ht,run_underlying hu,sizeOf,typeInfo,zeroValue,h1,h4,Builtin.lenOf,hn,h63',h48',Question.forced,hf,hfo,newRow,grownCap]
 congr 2
 apply Array.ext'
 simp [List.append_assoc]
theorem xH {t u e e' oty:Nat} {ie:TI} (ht:P.underlying t=some (.slice e)) (hu:P.underlying u=some (.slice e')) (hE:aI P e ie) {B:Nat} {xo:Option Addr} {sl sc n xc:Nat} {ns:List Value}
 (hx:∀ w2:World,w2.heap=w.heap->(Builtin.firstCells ie.size n (.slice xo n xc)).run P w2= .ok ns.toArray w2)
 (hroom:sl+n<=sc) (hst:(storeCells ⟨B,sl*ie.size,none⟩ ns).run P w= .ok () w') :
 (Builtin.append_ #[t,u] oty #[.slice (some ⟨B,0,none⟩) sl sc,.slice xo n xc]).run P w= .ok (.slice (some ⟨B,0,none⟩) (sl+n) sc) w':=by
 obtain ⟨info,z,h1,h2,h3,h4,h5⟩:=hE.info
 have hf:=hx w rfl
 rw [<- h2] at hf hst
 simp [Builtin.append_,run_underlying ht,run_underlying hu,sizeOf,typeInfo,h1,Builtin.lenOf,hroom,hf,addr_add,hst]
theorem uF {t u e e' oty:Nat} {ie:TI} (ht:P.underlying t=some (.slice e)) (hu:P.underlying u=some (.slice e')) (hE:aI P e ie) {xo:Option Addr} {xc:Nat}
 (hx:∀ w2:World,w2.heap=w.heap->(Builtin.firstCells ie.size 0 (.slice xo 0 xc)).run P w2= .ok #[] w2) :
 (Builtin.append_ #[t,u] oty #[.slice none 0 0,.slice xo 0 xc]).run P w= .ok (.slice none 0 0) w:=by
 obtain ⟨info,z,h1,h2,h3,h4,h5⟩:=hE.info
 have hf:=hx w rfl
 rw [<- h2] at hf
 simp [Builtin.append_,run_underlying ht,run_underlying hu,sizeOf,typeInfo,h1,Builtin.lenOf,hf]
theorem D.oN (z d:D):(D.cat z d).len=z.len+d.len:=rfl
theorem D.qc (z d:D):(D.cat z d).stride=z.stride:=rfl
theorem D.ahL (z d:D) (i:Nat):(D.cat z d).nth i=if i<z.len then z.nth i else d.nth (i - z.len):=rfl
theorem D.BZ (z d:D):(D.cat z d).cu=true:=rfl
theorem D.Yc {S:Nat->Prop} {z d:D} {size:Nat} {f:Nat->Option Value} (hz:z.stride=size) (h1:∀ i,i<z.len->(z.nth i).length=size/\∀ j,j<size->∃ u,f (i*size+j)=some u/\RD w S ((z.nth i).getD j .undef) u)
 (h2:∀ i,i<d.len->(d.nth i).length=size/\∀ j,j<size->∃ u,f ((z.len+i)*size+j)=some u/\RD w S ((d.nth i).getD j .undef) u) :
 ∀ i,i<(D.cat z d).len->((D.cat z d).nth i).length=(D.cat z d).stride/\∀ j,j<(D.cat z d).stride->∃ u,f (i*(D.cat z d).stride+j)=some u/\RD w S (((D.cat z d).nth i).getD j .undef) u:=by
 intro i hi
 rw [D.oN] at hi
 rw [D.ahL,D.qc,hz]
 by_cases h:i<z.len
 ·rw [if_pos h]; exact h1 i h
 rw [if_neg h]
 have:=h2 (i - z.len) (by omega)
 rwa [show z.len+(i - z.len)=i by omega] at this
theorem Om (R:Rel cx st m a w) {k:Nat} (hk:lk st.lb k=none) {z d:D} {size e:Nat} {zc:Array Value} {olds ns:List Value} {cap:Nat} (hz:z.stride=size) (ho:olds.length=z.len*size) (hn:ns.length=d.len*size)
 (h1:∀ i,i<z.len->(z.nth i).length=size/\∀ j,j<size->∃ u,olds[i*size+j]? =some u/\RD w (fP cx m) ((z.nth i).getD j .undef) u)
 (h2:∀ i,i<d.len->(d.nth i).length=size/\∀ j,j<size->∃ u,ns[i*size+j]? =some u/\RD w (fP cx m) ((d.nth i).getD j .undef) u)
 (he:dS w w') (hh:w'.heap=w.heap.push (.cells (olds.toArray++ns.toArray++Builtin.zeroCells zc (cap - (z.len+d.len))) e (0,0))) (hzc:zc.size=size) (hcap:z.len+d.len<=cap) :
 ∃ m',Rel cx ⟨st.sl,st.bx,(k,.owned (D.cat z d))::st.lb⟩ m' a w'/\fD cx m' w' (lk ((k,.owned (D.cat z d))::st.lb)) (.own k) (.slice (some ⟨w.heap.size,0,none⟩) (z.len+d.len) cap):=by
 have hB:w'.heap[w.heap.size]? =some (.cells (olds.toArray++ns.toArray++Builtin.zeroCells zc (cap - (z.len+d.len))) e (0,0)):=by rw [hh]; simp
 have hold:∀ B,B<w.heap.size->w'.heap[B]? =w.heap[B]? :=λB hB=>by rw [hh,Array.getElem?_push,if_neg (by omega)]
 have hs:w.heap.size<=w'.heap.size:=by rw [hh]; simp
 have hext:Ext w w' (fP cx m) (λB'=>fP cx m B'/\B'≠w.heap.size):=⟨hs,λB' h _=>hold B' h,λB' h hS=>⟨hS,by omega⟩⟩
 have hrow:Row w' (λB'=>fP cx m B'/\B'≠w.heap.size) w.heap.size (D.cat z d):=by
  refine ⟨_,e,hB,D.BZ _ _,?_⟩
  have:=D.Yc (w:=w) (S:=fP cx m) (f:=λr=>(olds.toArray++ns.toArray++Builtin.zeroCells zc (cap - (z.len+d.len)))[r]?) hz (λi hi=>⟨(h1 i hi).1,λj hj=>by
   obtain ⟨u,hu,hr⟩:=(h1 i hi).2 j hj
   have hlt:=(List.getElem?_eq_some_iff.1 hu).1
   exact ⟨u,by rw [Array.append_assoc,Array.getElem?_append_left (by simpa using hlt)]; simpa using hu,hr⟩⟩)
   (λi hi=>⟨(h2 i hi).1,λj hj=>by
    obtain ⟨u,hu,hr⟩:=(h2 i hi).2 j hj
    have hlt:=(List.getElem?_eq_some_iff.1 hu).1
    refine ⟨u,?_,hr⟩
    have e1:(z.len+i)*size+j=olds.length+(i*size+j):=by rw [ho,Nat.add_mul]; omega
    rw [e1,Array.append_assoc,Array.getElem?_append_right (by simp),Array.getElem?_append_left (by simp; omega)]
    simpa using hu⟩)
  intro i hi
  obtain ⟨g1,g2⟩:=this i hi
  exact ⟨g1,λj hj=>by
   obtain ⟨u,hu,hr⟩:=g2 j hj
   exact ⟨u,hu,hr.ext hext⟩⟩
 refine ⟨_,R.fU hk hs hold (B:=w.heap.size) (Nat.le_refl _) (by rw [hh]; simp) (D.BZ _ _) he hrow,?_⟩
 simp only [fD,aX,upd_same,nN]
 refine ⟨cap,_,e,by rw [D.oN],hB,?_,by rw [D.oN]; exact hcap⟩
 rw [D.qc,hz]
 simp only [Array.size_append,List.size_toArray,ho,hn,Builtin.zeroCells,Array.size_map,Array.size_range,hzc]
 rw [<- Nat.add_mul, <- Nat.add_mul]
 congr 1; omega
theorem QN (hty:iP P ty) (R:Rel cx st m a w) {lin:Bool} {nm t u:Nat} {x y:Operand} {e':Nat} (hu:P.underlying u=some (.slice e'))
 (ho:∀ v w',(Builtin.append_ #[t,u] o.type #[a.eval x,a.eval y]).run P w= .ok v w'->(execOp a.eval o).run P w= .ok (.value v) w')
 (aY:((pX ty lin nm t (valOf st x) (valOf st y)).run st).nO) :
 Good P cx st a w o ((pX ty lin nm t (valOf st x) (valOf st y)).run st):=by
 have hx:=R.val x
 have hy:=R.val y
 generalize valOf st x=ax at*
 generalize valOf st y=ay at*
 revert aY
 unfold pX
 split
 ·rename_i sz by' ag ze et en e s y' hi he
  obtain ⟨ht,hE⟩:=tV hty hi rfl he
  rcases wH st y' (λd=>Hw e (xM ty e) nm s y' d) with ⟨d,hd,k1⟩ | k1
  ·rw [k1]
   unfold Hw
   split
   ·rcases jy st nm (λk=> .ret ⟨(d.cu=true/\(d.len≠0->d.stride=e.size))/\d.len*e.bytes<=140737488355328/\d.len<=9223372036854775807,.c (.own k),
     [.lab k (.owned (D.cat (.sl e.size 0 λ_=>[]) d))]⟩) with ⟨k,hk,k2⟩ | k2
    ·rw [k2]
     intro aY
     simp only [Rd.run] at aY ⊢
     obtain ⟨⟨hs,hst⟩,hb,h63⟩:=aY
     obtain ⟨ao,cap,hv,hel⟩:=R.elems hd hy hs
     obtain ⟨ns,n1,n2,n3,n4⟩:=oQ (P:=P) hv hst hel
     have hx':a.eval x= .slice none 0 0:=hx
     rw [hv] at n2
     by_cases h0:d.len=0
     ·have hns:ns=[]:=List.eq_nil_of_length_eq_zero (by rw [n1,h0]; simp)
      subst hns
      rw [h0] at n2
      have hr:=uF (P:=P) (w:=w) (oty:=o.type) ht hu hE n2
      refine Good.val (m':=m) (ho _ _ (by rw [hx',hv,h0]; exact hr)) (R.MX hk (D.BZ _ _)) ?_
      have hno:m.own k=none:=R.zZ k hk
      simp only [RA,RU,fD,bK,Wr.put,aX,hno,nN]
      exact ⟨trivial,by rw [D.oN,h0]; rfl⟩
     obtain ⟨w2,cap2,z,c1,c2,c3,c4,c5⟩:=tq (P:=P) (w:=w) (oty:=o.type) (bo:=none) (sl:=0) (sc:=0) (olds:=[]) ht hu hE n2 (λw2 _=>run_firstCells_none (P:=P) w2 e.size 0 0 0) (by omega) (by omega) (by rw [Nat.zero_add]; exact hb)
     have hzc:z.cells.size=e.size:=by rw [<- Array.length_toList,c2,hE.IU]
     obtain ⟨m',R',hr'⟩:=Om R hk (z:= .sl e.size 0 λ_=>[]) (d:=d) (size:=e.size) rfl (by simp [D.len]) n1 (λi hi=>by simp [D.len] at hi) n4 c3 c4 hzc c1
     exact Good.val (ho _ _ (by rw [hx',hv]; exact c5)) R' hr'
    rw [k2]; exact λh=>h.elim
   ·rename_i j
    simp only [Rd.run]
    split
    ·rename_i z hz
     rcases jy st nm (λk=> .ret ⟨((d.cu=true/\(d.len≠0->d.stride=e.size))/\z.stride=e.size/\MW y' j)/\(z.len+d.len)*e.bytes<=140737488355328/\z.len+d.len<=9223372036854775807,
      .c (.own k),[.lab j .dead,.lab k (.owned (D.cat z d))]⟩) with ⟨k,hk,k2⟩ | k2
     ·rw [k2]
      intro aY
      simp only [Rd.run] at aY ⊢
      obtain ⟨⟨⟨hs,hst⟩,Qw,hnl⟩,hb,h63⟩:=aY
      obtain ⟨ao,cap,hv,hel⟩:=R.elems hd hy hs
      obtain ⟨ns,n1,n2,n3,n4⟩:=oQ (P:=P) hv hst hel
      have hkj:k≠j:=by rintro rfl; rw [hz] at hk; cases hk
      rw [hv] at n2
      have hzs:=(R.owned j z hz).1
      have RK:=R.kill hz
      have hkK:lk ((j,fE.dead)::st.lb) k=none:=by rw [aS hkj]; exact hk
      have hsub:∀ B,fP cx m B->fP cx ⟨upd m.own j none,m.box,m.inn,m.mp⟩ B:=λB h=>⟨h.1,λi hi=>by
       simp only [upd] at hi
       split at hi
       ·cases hi
       exact h.2.1 i hi,h.2.2⟩
      have ai6:Ext w w (fP cx m) (fP cx ⟨upd m.own j none,m.box,m.inn,m.mp⟩):=⟨Nat.le_refl _,λ_ _ _=>rfl,λB _ h=>hsub B h⟩
      have hxv:fD cx m w (lk st.lb) (.own j) (a.eval x):=hx
      obtain ⟨bo,sc,hxs,alF⟩:=R.elems (y:= .own j) (d:=z) (Or.inl hz) hxv hzs
      obtain ⟨olds,o1,o2,o3,o4⟩:=oQ (P:=P) hxs (λ_=>Qw) alF
      rw [hxs] at o2
      by_cases hroom:z.len+d.len<=sc
      ·cases hB:m.own j with
       | none=>
        simp only [fD,hz,hB,nN] at hxv
        obtain ⟨e1,e2⟩:=hxv
        rw [hxs] at e1
        obtain ⟨rfl,_,rfl⟩:=by simpa using e1
        have h0:d.len=0:=by omega
        have hns:ns=[]:=List.eq_nil_of_length_eq_zero (by rw [n1,h0]; simp)
        subst hns
        rw [h0] at n2
        have hr:=uF (P:=P) (w:=w) (oty:=o.type) ht hu hE n2
        refine Good.val (ho _ _ (by rw [hxs,hv,h0,e2]; exact hr)) (RK.MX hkK (D.BZ _ _)) ?_
        have hno:upd m.own j none k=none:=by rw [bF hkj]; exact R.zZ k hk
        simp only [RA,RU,fD,bK,Wr.put,aX,hno,nN]
        exact ⟨trivial,by rw [D.oN,h0,e2]⟩
       | some B=>
        simp only [fD,hz,hB,nN] at hxv
        obtain ⟨cap',c,T,e1,hc,hcs,hle⟩:=hxv
        rw [hxs] at e1
        obtain ⟨rfl,rfl⟩:=by simpa using e1
        have aDy:z.len*e.size+ns.length<=c.size:=by
         rw [hcs,Qw,n1, <- Nat.add_mul]
         exact Nat.mul_le_mul_right _ hroom
        obtain ⟨w2,c',hst2,sd⟩:=pF (P:=P) B (z.len*e.size) T ns w c 0 hc n3 (by omega)
        have hr:=xH (P:=P) (w:=w) (w':=w2) (oty:=o.type) (B:=B) ht hu hE n2 hroom hst2
        have hS:∀ B',B'<w.heap.size->fP cx m B'->B'≠B:=λB' _ h e=>by subst e; exact h.2.1 j hB
        have hext:Ext w w2 (fP cx m) (fP cx m):=⟨by rw [sd.size]; exact Nat.le_refl _,λB' h1 h2=>sd.other B' (hS B' h1 h2),λ_ _ h=>h⟩
        obtain ⟨_,hrow0⟩:=R.owned j z hz
        obtain ⟨c0,T0,hc0,_,hz0⟩:=hrow0 B hB
        rw [hc] at hc0
        obtain ⟨rfl,rfl⟩:=by simpa using hc0
        have hrow:Row w2 (fP cx m) B (D.cat z d):=by
         refine ⟨c',T,sd.row,D.BZ _ _,?_⟩
         refine D.Yc (w:=w2) (S:=fP cx m) (f:=λr=>c'[r]?) Qw (λi hi=> ?_) (λi hi=> ?_)
         ·obtain ⟨g1,g2⟩:=hz0 i hi
          rw [Qw] at g1 g2
          refine ⟨g1,λq hq=> ?_⟩
          obtain ⟨v,hv2,hd2⟩:=g2 q hq
          have:(i+1)*e.size<=z.len*e.size:=Nat.mul_le_mul_right _ hi
          rw [Nat.add_mul] at this
          exact ⟨v,by rw [sd.get,if_neg (by omega)]; exact hv2,hd2.ext hext⟩
         obtain ⟨g1,g2⟩:=n4 i hi
         refine ⟨g1,λq hq=> ?_⟩
         obtain ⟨v,hv2,hd2⟩:=g2 q hq
         have hlt:=(List.getElem?_eq_some_iff.1 hv2).1
         refine ⟨v,?_,hd2.ext hext⟩
         rw [sd.get,Nat.add_mul,if_pos (by omega)]
         rw [show z.len*e.size+i*e.size+q - (z.len*e.size+0)=i*e.size+q by omega]
         exact hv2
        have R2:=R.agL hB hz hk (x':=D.cat z d) (D.BZ _ _) sd.env sd.size sd.other hrow
        refine Good.val (ho _ _ (by rw [hxs,hv]; exact hr)) R2 ?_
        simp only [RA,RU,fD,bK,Wr.put,aX,upd_same,nN]
        exact ⟨sc,c',T,by rw [D.oN],sd.row,by rw [sd.len,hcs,D.qc],by rw [D.oN]; exact hroom⟩
      obtain ⟨w2,cap2,zz,c1,c2,c3,c4,c5⟩:=tq (P:=P) (w:=w) (oty:=o.type) ht hu hE n2 o2 (by omega) (by omega) (by omega)
      have hzc:zz.cells.size=e.size:=by rw [<- Array.length_toList,c2,hE.IU]
      obtain ⟨m',R',hr'⟩:=Om RK hkK (z:=z) (d:=d) (size:=e.size) Qw o1 n1
       (λi hi=>⟨(o4 i hi).1,λq hq=>by obtain ⟨u,hu,hr⟩:=(o4 i hi).2 q hq; exact ⟨u,hu,hr.ext ai6⟩⟩)
       (λi hi=>⟨(n4 i hi).1,λq hq=>by obtain ⟨u,hu,hr⟩:=(n4 i hi).2 q hq; exact ⟨u,hu,hr.ext ai6⟩⟩) c3 c4 hzc c1
      exact Good.val (ho _ _ (by rw [hxs,hv]; exact c5)) R' hr'
     rw [k2]; exact λh=>h.elim
    ·rename_i z hz
     rcases jy st nm (λk=> .ret ⟨(d.cu=true/\d.len=1/\d.stride=e.size/\Zw d 0=[.nl]/\e.size=1)/\(z.len+1)*e.bytes<=140737488355328/\z.len+1<=9223372036854775807,
      .c (.own k),[.lab j .dead,.lab k (.deep (z.app [.sl (xM ty e) 0 λ_=>[]]))]⟩) with ⟨k,hk,k2⟩ | k2
     ·rw [k2]
      intro aY
      simp only [Rd.run] at aY ⊢
      obtain ⟨⟨hs,hd1,hdst,hd0,he1⟩,hb,h63⟩:=aY
      obtain ⟨ao,cap,hv,hel⟩:=R.elems hd hy hs
      obtain ⟨ns,n1,n2,n3,n4⟩:=oQ (P:=P) hv (λ_=>hdst) hel
      rw [hv] at n2
      have hns:ns=[.slice none 0 0]:=by
       obtain ⟨_,h4⟩:=n4 0 (by omega)
       obtain ⟨u,hu,hr⟩:=h4 0 (by omega)
       have aDR:d.nth 0=[.nl]:=hd0
       rw [aDR] at hr
       have hun:u= .slice none 0 0:=by cases hr; rfl
       subst hun
       rw [hd1,he1] at n1
       match ns,n1,hu with
       | [v],_,hu=>simpa using hu
      subst hns
      rw [hd1] at n2
      obtain ⟨d1,d2,d3⟩:=R.bn.ok j z hz
      have hxv:fD cx m w (lk st.lb) (.own j) (a.eval x):=hx
      simp only [fD,hz] at hxv
      have hnew:∀ (olds:List Value) (bo:Option Addr) (sc:Nat),a.eval x= .slice bo z.len sc->olds.length=z.len->sc<z.len+1->
       (∀ w2:World,w2.heap=w.heap->(Builtin.firstCells e.size z.len (.slice bo z.len sc)).run P w2= .ok olds.toArray w2)->
       (∀ i B0 u,i<z.len->m.own j=some B0->w.cell? ⟨B0,i,none⟩=some u->olds[i]? =some u)->(z.len≠0->∃ B0,m.own j=some B0)->
       Good P cx st a w o ⟨(d.cu=true/\d.len=1/\d.stride=e.size/\Zw d 0=[.nl]/\e.size=1)/\(z.len+1)*e.bytes<=140737488355328/\z.len+1<=9223372036854775807,
        .c (.own k),[.lab j .dead,.lab k (.deep (z.app [.sl (xM ty e) 0 λ_=>[]]))]⟩:=by
       intro olds bo sc hxs o1 hsc o2 hcells hex
       obtain ⟨w2,cap2,zz,c1,c2,c3,c4,c5⟩:=tq (P:=P) (w:=w) (oty:=o.type) ht hu hE n2 o2 hsc h63 hb
       have hzc:zz.cells.size=1:=by rw [<- Array.length_toList,c2,hE.IU,he1]
       obtain ⟨T9,hB2⟩:∃ T9,w2.heap[w.heap.size]? =some (.cells (olds.toArray++[Value.slice none 0 0].toArray++Builtin.zeroCells zz.cells (cap2 - (z.len+1))) T9 (0,0)):=⟨et,by rw [c4]; simp⟩
       have hold:∀ B,B<w.heap.size->w2.heap[B]? =w.heap[B]? :=λB hB=>by rw [c4,Array.getElem?_push,if_neg (by omega)]
       have hsz:w2.heap.size=w.heap.size+1:=by rw [c4]; simp
       have RP:=R.PX (k':=k) (B:=w.heap.size) (xM ty e) hz hk c3 (by omega) (.inr (Nat.le_refl _)) (by omega) (λB hB _=>hold B hB) (.grow hold) hB2 (λi B0 u hi h0 hc=>by
        have hlt:i<olds.length:=by omega
        have:=hcells i B0 u hi h0 hc
        rw [Array.append_assoc,Array.getElem?_append_left (by simpa using hlt)]
        simpa using this) (by
        rw [Array.append_assoc,Array.getElem?_append_right (by simp [o1]),Array.getElem?_append_left (by simp [o1])]
        simp [o1]) hex
       refine Good.val (ho _ _ (by rw [hxs,hv,hd1]; exact c5)) RP ?_
       simp only [RA,RU,fD,bK,Wr.put,aX,upd_same,nN]
       refine ⟨cap2,_,_,rfl,hB2,?_,c1⟩
       have e9:(z.app [.sl (xM ty e) 0 λ_=>[]]).stride=1:=d2
       rw [e9]
       simp only [Array.size_append,List.size_toArray,o1,Builtin.zeroCells,Array.size_map,Array.size_range,hzc,List.length_cons,List.length_nil]
       omega
      cases hB:m.own j with
      | none=>
       rw [hB] at hxv
       obtain ⟨e1,e2⟩:=hxv
       exact hnew [] none 0 (by rw [e1,e2]) (by simp [e2]) (by omega) (λw2 _=>by rw [e2]; exact run_firstCells_none (P:=P) w2 e.size 0 0 0) (λi B0 u hi _ _=>by omega) (λh=>absurd e2 h)
      | some B=>
       rw [hB] at hxv
       obtain ⟨sc,c,T,hxs,hc,hcs,hle⟩:=hxv
       rw [d2,Nat.mul_one] at hcs
       by_cases hroom:z.len+1<=sc
       ·obtain ⟨w2,c',hst2,sd⟩:=pF (P:=P) B (z.len*e.size) T [.slice none 0 0] w c 0 hc n3 (by simp [he1]; omega)
        have hr:=xH (P:=P) (w:=w) (w':=w2) (oty:=o.type) (B:=B) ht hu hE n2 hroom (by simpa using hst2)
        have hget:∀ i,c'[i]? =if i=z.len then some (.slice none 0 0) else c[i]? :=λi=>by
         have:=sd.get i
         simp only [he1,Nat.mul_one,Nat.add_zero,List.length_cons,List.length_nil] at this
         rw [this]
         by_cases e3:i=z.len
         ·subst e3; simp
         rw [if_neg (by omega),if_neg e3]
        have RP:=R.PX (k':=k) (B:=B) (xM ty e) hz hk sd.env (by rw [sd.size]; exact Nat.le_refl _) (.inl hB) (by rw [sd.size]; exact (R.dK _ _ hB).2) (λB' _ h=>sd.other B' h) (R.Af hB sd.other) sd.row (λi B0 u hi h0 hcl=>by
         rw [hB] at h0; cases h0
         simp only [World.cell?,hc] at hcl
         rw [hget,if_neg (by omega)]; simpa using hcl) (by rw [hget,if_pos rfl]) (λ_=>⟨B,hB⟩)
        refine Good.val (ho _ _ (by rw [hxs,hv,hd1]; exact hr)) RP ?_
        simp only [RA,RU,fD,bK,Wr.put,aX,upd_same,nN]
        have e9:(z.app [.sl (xM ty e) 0 λ_=>[]]).stride=1:=d2
        exact ⟨sc,c',T,rfl,sd.row,by rw [e9,sd.len,hcs,Nat.mul_one],hroom⟩
       have ho1:(c.toList.take z.len).length=z.len:=by simp; omega
       refine hnew (c.toList.take z.len) _ sc hxs ho1 (by omega) (λw2 hw2=> ?_) (λi B0 u hi h0 hcl=> ?_) (λ_=>⟨B,hB⟩)
       ·refine run_firstCells_some (P:=P) w2 e.size z.len ⟨B,0,none⟩ z.len sc _ (by rw [ho1,he1,Nat.mul_one]) (λr u hu=> ?_)
        have hr:r<z.len:=by
         have:=(List.getElem?_eq_some_iff.1 hu).1
         rw [ho1] at this; exact this
        rw [List.getElem?_take,if_pos hr] at hu
        rw [addr_add]
        simp only [World.cell?,hw2,hc,Nat.zero_add]
        simpa using hu
       rw [hB] at h0; cases h0
       simp only [World.cell?,hc] at hcl
       rw [List.getElem?_take,if_pos hi]
       simpa using hcl
     rw [k2]; exact λh=>h.elim
    exact aO
   ·rename_i z
    rcases jy st nm (λk=> .ret ⟨((d.cu=true/\(d.len≠0->d.stride=e.size))/\(z.len≠0->z.stride=e.size)/\d.len≠0)/\(z.len+d.len)*e.bytes<=140737488355328/\z.len+d.len<=9223372036854775807,
     .c (.own k),[.lab k (.owned (if z.len=0 then D.cat (.sl e.size 0 λ_=>[]) d else D.cat z d))]⟩) with ⟨k,hk,k2⟩ | k2
    ·rw [k2]
     intro aY
     simp only [Rd.run] at aY ⊢
     obtain ⟨⟨⟨hs,hst⟩,Qw,hd0⟩,hb,h63⟩:=aY
     obtain ⟨ao,cap,hv,hel⟩:=R.elems hd hy hs
     obtain ⟨ns,n1,n2,n3,n4⟩:=oQ (P:=P) hv hst hel
     rw [hv] at n2
     have hxv:fD cx m w (lk st.lb) (.X8 z) (a.eval x):=hx
     obtain ⟨hzs,hrd,zb,hzv⟩:=hxv
     obtain ⟨bo,sc,hxs,alF⟩:=R.elems (y:= .d z) (d:=z) rfl hrd hzs
     obtain ⟨olds,o1,o2,o3,o4⟩:=oQ (P:=P) hxs Qw alF
     rw [hxs] at o2 hzv
     obtain ⟨rfl,rfl⟩:bo=zb/\sc=z.len:=by simpa using hzv
     obtain ⟨w2,cap2,zz,c1,c2,c3,c4,c5⟩:=tq (P:=P) (w:=w) (oty:=o.type) ht hu hE n2 o2 (by omega) (by omega) (by omega)
     have hzc:zz.cells.size=e.size:=by rw [<- Array.length_toList,c2,hE.IU]
     obtain ⟨z',ez,es,el,en⟩:∃ z':D,(if z.len=0 then D.cat (.sl e.size 0 λ_=>[]) d else D.cat z d)=D.cat z' d/\z'.stride=e.size/\z'.len=z.len/\∀ i,i<z.len->z'.nth i=z.nth i:=by
      by_cases h0:z.len=0
      ·exact ⟨.sl e.size 0 λ_=>[],by rw [if_pos h0],rfl,by rw [h0]; rfl,λi hi=>by omega⟩
      exact ⟨z,by rw [if_neg h0],Qw h0,rfl,λ_ _=>rfl⟩
     obtain ⟨m',R',hr'⟩:=Om R hk (z:=z') (d:=d) (size:=e.size) es (by rw [el]; exact o1) n1 (λi hi=>by rw [el] at hi; rw [en i hi]; exact o4 i hi) n4 c3 (by rw [el]; exact c4) hzc (by rw [el]; exact c1)
     rw [ez]
     exact Good.val (ho _ _ (by rw [hxs,hv, <- el]; rw [<- el] at c5; exact c5)) R' hr'
    rw [k2]; exact λh=>h.elim
   exact aO
  rw [k1]; exact λh=>h.elim
 exact aO
theorem xU {x:D} {B q:Nat} {S:Nat->Prop}:∀ {n:Nat} {l:List UInt8},bytesOf x n=some l->(∀ i,i<n->∃ u,w.cell? ⟨B,q+i,none⟩=some u/\RD w S ((x.nth i).getD 0 .undef) u)->
 ∃ ns:List Int,ns.length=n/\(∀ i,i<n->w.cell? ⟨B,q+i,none⟩=some (.int .u8 (ns.getD i 0)))/\l=ns.map λk=>UInt8.ofNat k.toNat
 | 0,l,h,_=>⟨[],rfl,λi hi=>absurd hi (by omega),by rw [bytesOf] at h; simpa using h.symm⟩
 | n+1,l,h,hc=>by
  rw [bytesOf] at h
  split at h
  ·rename_i k l' e1 e2
   have e1:x.nth n=[.int .u8 k]:=e1
   obtain ⟨ns,g1,g2,g3⟩:=xU e2 (λi hi=>hc i (by omega))
   obtain ⟨u,hu,hr⟩:=hc n (by omega)
   rw [e1] at hr
   have hu':=jl hr
   refine ⟨ns++[k],by simp [g1],λi hi=> ?_,?_⟩
   ·by_cases e:i=n
    ·subst e
     rw [hu,hu']
     simp [List.getD_eq_getElem?_getD, <- g1]
    rw [g2 i (by omega)]
    simp [List.getD_eq_getElem?_getD,List.getElem?_append_left (show i<ns.length by omega)]
   have:=Option.some.inj h
   rw [<- this,g3]; simp
  cases h
theorem foldl_push_bytes (ns:List Int):∀ s:ByteArray,ns.foldl (λr n=>r.push (UInt8.ofNat n.toNat)) s=⟨s.data++(ns.map λk=>UInt8.ofNat k.toNat).toArray⟩:=by
 induction ns with
 | nil=>intro s; simp
 | cons n ns ih=>intro s; rw [List.foldl_cons,ih]; simp [ByteArray.push]
theorem G5 (hty:iP P ty) (R:Rel cx st m a w) {s d e:Nat} {x:Operand} {sz by':Nat} {ag:Bool} {ze:List Value} {en:Option (List Bool)} (ho:o.op= .convert s d x) (hs:ty s=some ⟨sz,by',ag,ze,.slice e,en⟩) (aY:((lZ ty e d (valOf st x)).run st).nO) :
 Good P cx st a w o ((lZ ty e d (valOf st x)).run st):=by
 have hx:=R.val x
 generalize valOf st x=ax at*
 revert aY
 unfold lZ
 split
 ·rename_i _ _ _ _ _ _ _ _ _ _ y hd he
  rcases wH st y Eo with ⟨dd,hdd,k1⟩ | k1
  ·rw [k1]
   unfold Eo
   split
   ·rename_i l hl
    intro aY
    simp only [Rd.run] at aY ⊢
    obtain ⟨hsl,hst⟩:=aY
    obtain ⟨ao,cap,hv,hel⟩:=R.elems hdd hx hsl
    have hs':=(hty s _ hs).und
    have hd':=(hty d _ hd).und
    have he':=(hty e _ he).und
    refine Good.val (m':=m) (w':=w) (v:= .string ⟨l.toArray⟩) ?_ R (RD.str _)
    have key:(Conv.bytesToString (.slice ao dd.len cap)).run P w= .ok (.string ⟨l.toArray⟩) w:=by
     rcases hel with h0 | ⟨B,q,rfl,hel⟩
     ·rw [h0] at hl ⊢
      rw [bytesOf] at hl
      obtain rfl:=Option.some.inj hl
      cases ao with
      | none=>simp [Conv.bytesToString]; rfl
      | some p=>
       have:=run_bytesToString (P:=P) w p 0 cap [] (by simp [loadCells,loadCellsFrom])
       rw [this]; rfl
     by_cases h0:dd.len=0
     ·rw [h0] at hl ⊢
      rw [bytesOf] at hl
      obtain rfl:=Option.some.inj hl
      have:=run_bytesToString (P:=P) w ⟨B,q,none⟩ 0 cap [] (by simp [loadCells,loadCellsFrom])
      rw [this]; rfl
     have hst':=hst h0
     obtain ⟨ns,g1,g2,g3⟩:=xU (w:=w) (B:=B) (q:=q) (S:=fP cx m) hl (λi hi=>by
      have:=(hel i hi).2 0 (by omega)
      rw [hst'] at this
      simpa using this)
     have hlc:=run_loadCells (P:=P) w ⟨B,q,none⟩ dd.len (λi=> .int .u8 (ns.getD i 0)) (λj hj=>by rw [addr_add]; exact g2 j hj)
     have e1:((List.range dd.len).map λi=>Value.int .u8 (ns.getD i 0))=ns.map (Value.int .u8):=by
      refine List.ext_getElem (by simp [g1]) λi h1 h2=> ?_
      simp only [List.getElem_map,List.getElem_range]
      have hi:i<ns.length:=by simpa using h2
      simp [List.getD_eq_getElem?_getD,hi]
     rw [e1] at hlc
     rw [run_bytesToString (P:=P) w ⟨B,q,none⟩ dd.len cap ns hlc,foldl_push_bytes,g3]
     have he0:ByteArray.empty.data= #[]:=rfl
     rw [he0]; simp
    have hcv:=run_convert_bytes_string (P:=P) w s d e ao dd.len cap hs' he' hd'
    rw [key, <- hv] at hcv
    simp [execOp,ho,hcv]
   exact aO
  rw [k1]; exact λh=>h.elim
 exact aO
end
end Go.dR
set_option linter.unusedVariables false
set_option linter.unusedSimpArgs false
namespace Go.dR
structure l7 (lo:Nat) (w w':World):Prop where
 env:dS w w'
 size:w'.heap.size=w.heap.size
 low:∀ B,B<lo->w'.heap[B]? =w.heap[B]?
 cells:∀ (B:Nat) (c:Array Value) (T:TypeId) (z:Nat×Nat),w.heap[B]? =some (.cells c T z)->w'.heap[B]? =some (.cells c T z)
section
variable {lo:Nat} {w w':World} {S:Nat->Prop}
theorem l7.cell (h:l7 lo w w') {B o:Nat} {u:Value} (hc:w.cell? ⟨B,o,none⟩=some u):w'.cell? ⟨B,o,none⟩=some u:=by
 simp only [World.cell?] at*
 split at hc
 ·rename_i c T z e
  rw [h.cells B c T z e]; exact hc
 cases hc
theorem l7.rd (h:l7 lo w w') {d:D} {v:Value} (hd:RD w S d v):RD w' S d v:=by
 induction hd with
 | undef v h=>exact .undef v h
 | int k n=>exact .int k n
 | bool b=>exact .bool b
 | str s=>exact .str s
 | Vk=>exact .Vk
 | DK t v=>exact .DK t v
 | sl0 s g ao cap=>exact .sl0 s g ao cap
 | nl=>exact .nl
 | fn f=>exact .fn f
 | sl s n g B o cap f hn hcap hB hS hl hc hr ih=>exact .sl s n g B o cap f hn hcap (by rw [h.size]; exact hB) hS hl (λi j hi hj=>h.cell (hc i j hi hj)) ih
 | rO l=>exact .rO l
 | ptr l B o f hB hS hc hr ih=>exact .ptr l B o f (by rw [h.size]; exact hB) hS (λj hj=>h.cell (hc j hj)) ih
theorem l7.ptr (h:l7 lo w w') {l:List D} {off:Nat} {v:Value} (hp:Ptr w S l off v):Ptr w' S l off v:=by
 obtain ⟨B,o,rfl,hB,hS,hc⟩:=hp
 refine ⟨B,o,rfl,by rw [h.size]; exact hB,hS,λj hj=> ?_⟩
 obtain ⟨u,hu,hr⟩:=hc j hj
 exact ⟨u,h.cell hu,h.rd hr⟩
theorem l7.row (h:l7 lo w w') {B:Nat} {x:D} (hr:Row w S B x):Row w' S B x:=by
 obtain ⟨c,T,hc,hs,hx⟩:=hr
 refine ⟨c,T,h.cells _ _ _ _ hc,hs,λi hi=>⟨(hx i hi).1,λj hj=> ?_⟩⟩
 obtain ⟨u,hu,hd⟩:=(hx i hi).2 j hj
 exact ⟨u,hu,h.rd hd⟩
theorem l7.hdl (h:l7 lo w w') {o:Option Nat} {x:D} {v:Value} (hx:nN w o x v):nN w' o x v:=by
 unfold nN at*
 split
 ·exact hx
 obtain ⟨cap,c,T,e1,e2,e3⟩:=hx
 exact ⟨cap,c,T,e1,h.cells _ _ _ _ e2,e3⟩
variable {cx:Cx} {m:Mp} {lb:Nat->Option fE}
theorem l7.aj9 (h:l7 lo w w') {x:Cap} {v:Value} (hx:Dj cx m w x v):Dj cx m w' x v:=by
 cases x with
 | ref b off=>exact hx
 | dM l off=>exact h.ptr hx
theorem l7.rcl (h:l7 lo w w') {x:AC} {v:Value} (hx:fD cx m w lb x v):fD cx m w' lb x v:=by
 cases x with
 | undef=>trivial
 | d x=>exact h.rd hx
 | dF=>exact hx
 | own k=>
  simp only [fD] at*
  cases hl:lb k with
  | none=>simp [hl] at hx
  | some L=>
   rw [hl] at hx
   cases L with
   | dead=>exact hx
   | shared y=>exact ⟨hx.1,h.rd hx.2⟩
   | owned y=>exact h.hdl hx
   | deep y=>exact h.hdl hx
   | set y=>exact hx
 | ref b off=>exact hx
 | iE k i off=>
  simp only [fD] at*
  cases hl:lb k with
  | none=>simp [hl] at hx
  | some L=>
   rw [hl] at hx
   cases L with
   | dead=>exact hx
   | shared y=>exact ⟨hx.1,hx.2.1,h.ptr hx.2.2⟩
   | owned y=>exact hx
   | deep y=>exact hx
   | set y=>exact hx
 | dM l off=>exact h.ptr hx
 | clo f caps=>
  obtain ⟨vs,rfl,hsz,hc⟩:=hx
  refine ⟨vs,rfl,hsz,λi hi=> ?_⟩
  obtain ⟨u,hu,hr⟩:=hc i hi
  exact ⟨u,hu,h.aj9 hr⟩
 | Yw l=>exact hx
 | X8 x=>exact ⟨hx.1,h.rd hx.2.1,hx.2.2⟩
 | glob g off=>exact hx
 | xg b off n s=>exact hx
 | bnd f l=>
  obtain ⟨us,rfl,hsz,hc⟩:=hx
  refine ⟨us,rfl,hsz,λi hi=> ?_⟩
  obtain ⟨u,hu,hr⟩:=hc i hi
  exact ⟨u,hu,h.rd hr⟩
theorem l7.ru (h:l7 lo w w') {x:AU} {v:Value} (hx:RU cx m w lb x v):RU cx m w' lb x v:=by
 cases x with
 | c x=>exact h.rcl hx
 | agg l=>
  obtain ⟨vs,rfl,hsz,hc⟩:=hx
  refine ⟨vs,rfl,hsz,λi hi=> ?_⟩
  obtain ⟨u,hu,hr⟩:=hc i hi
  exact ⟨u,hu,h.rcl hr⟩
theorem l7.ra (h:l7 lo w w') {x:AV} {v:Value} (hx:RA cx m w lb x v):RA cx m w' lb x v:=by
 cases x with
 | u x=>exact h.ru hx
 | Jy l=>
  obtain ⟨vs,rfl,hsz,hc⟩:=hx
  refine ⟨vs,rfl,hsz,λi hi=> ?_⟩
  obtain ⟨u,hu,hr⟩:=hc i hi
  exact ⟨u,hu,h.ru hr⟩
 | cnd b x=>exact ⟨λhb=>h.ru (hx.1 hb),hx.2⟩
theorem Rel.VQ {st : St} {a : Act} (R : Rel cx st m a w) {kk B : Nat} {x x' : MD} (hk : lk st.lb kk = some (.set x)) (hB : m.mp kk = some B) {es : Array MapEntry} {c : Nat} (hmap : w.heap[B]? = some (.map es c))
    (hw : l7 cx.w0.heap.size w w') (hoth : ∀ B', B' ≠ B -> w'.heap[B']? = w.heap[B']?) (hset : MapAt cx m w' (lk ((kk, .set x') :: st.lb)) B x') : Rel cx ⟨st.sl, st.bx, (kk, .set x') :: st.lb⟩ m a w' := by
  have hm : Move cx m w' (lk st.lb) m w' (lk ((kk, .set x') :: st.lb)) := by
    refine ⟨⟨Nat.le_refl _, λ_ _ _ => rfl, λ_ _ h => h⟩, λ_ _ h => h, λk => ?_⟩
    by_cases e : k = kk
    · subst e; simp only [fZ, hk, aX]; exact .inr ⟨x', rfl, trivial⟩
    have := gZ (cx := cx) (st := st) (m := m) (m' := m) (w := w') (w' := w') (λ_ _ h => h) (λ_ h _ => h) (λk B _ => .of_eq rfl) rfl k
    simpa only [fZ, aS e] using this
  have hl : ∀ k L, (∀ y, L ≠ .set y) -> (lk ((kk, .set x') :: st.lb) k = some L ↔ lk st.lb k = some L) := λk L hL => by
    by_cases e : k = kk
    · subst e; rw [aX, hk]; exact ⟨λh => absurd (Option.some.inj h).symm (hL _), λh => absurd (Option.some.inj h).symm (hL _)⟩
    rw [aS e]
  have hod : ∀ k, od (lk ((kk, .set x') :: st.lb) k) = od (lk st.lb k) := λk => by
    by_cases e : k = kk
    · subst e; rw [aX, hk]; rfl
    rw [aS e]
  refine { defers := ?_, recs := λp hp => ?_, nt := R.nt, env := R.env.trans hw.env, size := by rw [hw.size]; exact R.size, old := λB hB => (hw.low B hB).trans (R.old B hB), s0 := R.s0, slots := λt v h => ⟨(R.slots t v h).1, RA.move hm (hw.ra (R.slots t v h).2)⟩,
           fG := λp hp => RA.move hm (hw.ra (R.fG p hp)), boxes := λb cs hb => ?_, gI := R.gI, nG := λk y hy => ?_, gX := λk h => R.gX k (by rw [<- hod]; exact h), bn := ?_, sets := ?_,
           dK := λk B h => ⟨(R.dK k B h).1, by rw [hw.size]; exact (R.dK k B h).2⟩, gu := λk B h => ⟨(R.gu k B h).1, by rw [hw.size]; exact (R.gu k B h).2⟩, je := R.je, kS := R.kS, sU := R.sU }
  · obtain ⟨Ds, hd⟩ := R.defers
    exact ⟨Ds, { hd with here := λD hD => by rw [hoth D (by rintro rfl; have := hd.here D hD; rw [hmap] at this; cases this)]; exact hd.here D hD }⟩
  · obtain ⟨r1, r2, r3⟩ := R.recs p hp
    exact ⟨r1, by rw [hoth p.1 (by rintro e; rw [e, hmap] at r2; exact r3.2 _ _ (Option.some.inj r2).symm)]; exact r2, r3⟩
  · obtain ⟨B', c, T, h1, h2, h3, h4⟩ := R.boxes b cs hb
    refine ⟨B', c, T, h1, hw.cells _ _ _ _ h2, h3, λj hj => ?_⟩
    obtain ⟨u, hu, hr⟩ := h4 j hj
    exact ⟨u, hu, fD.move hm (hw.rcl hr)⟩
  · rw [hod] at hy
    exact ⟨(R.nG k y hy).1, λB hB => hw.row ((R.nG k y hy).2 B hB)⟩
  · refine ⟨λk y hy => ?_, λk j B h => ?_, λk j B h => ⟨(R.bn.blk k j B h).1, by rw [hw.size]; exact (R.bn.blk k j B h).2⟩, R.bn.inj, R.bn.own, R.bn.box⟩
    · obtain ⟨h1, h2, h3⟩ := R.bn.ok k y ((hl k _ (λ_ e => by cases e)).1 hy)
      refine ⟨h1, h2, λj hj => ⟨(h3 j hj).1, ?_⟩⟩
      rcases (h3 j hj).2 with ⟨g1, g2⟩ | ⟨g1, ⟨B, u, g2, g3, g4⟩, g5⟩
      · exact .inl ⟨g1, g2⟩
      exact .inr ⟨g1, ⟨B, u, g2, hw.cell g3, hw.hdl g4⟩, λB' h => hw.row (g5 B' h)⟩
    obtain ⟨y, h1, h2⟩ := R.bn.only k j B h
    exact ⟨y, (hl k _ (λ_ e => by cases e)).2 h1, h2⟩
  refine ⟨λk y hy => ?_, λk B h => ⟨(R.sets.blk k B h).1, by rw [hw.size]; exact (R.sets.blk k B h).2⟩, R.sets.inj⟩
  by_cases e : k = kk
  · subst e; rw [aX] at hy; cases hy
    exact ⟨B, hB, hset⟩
  rw [aS e] at hy
  obtain ⟨B', h1, h2⟩ := R.sets.ok k y hy
  exact ⟨B', h1, h2.keep (λes c h => by rw [hoth B' (λe2 => e (R.sets.inj _ _ _ h1 (e2 ▸ hB)))]; exact h) (λ_ _ h => fD.move hm (hw.rcl h))⟩
end
section
variable {P:Program} {ty:iT} {cx:Cx} {st:St} {m m':Mp} {a:Act} {w w':World} {o:Oper} {out:Out}
theorem Rel.acJ (R:Rel cx st m a w) {kk:Nat} (hk:lk st.lb kk=none) {M:MD} (hM:M= .keys (D.ofList 1 [])\/M= .tab []) :
 Rel cx ⟨st.sl,st.bx,(kk,.set M)::st.lb⟩ ⟨m.own,m.box,m.inn,upd m.mp kk (some w.heap.size)⟩ a (w.alloc (.map #[] 0)):=by
 have hh:(w.alloc (.map #[] 0)).heap=w.heap.push (.map #[] 0):=rfl
 have hold:∀ B,B<w.heap.size->(w.alloc (.map #[] 0)).heap[B]? =w.heap[B]? :=λB hB=>by rw [hh,Array.getElem?_push,if_neg (by omega)]
 have hsz:(w.alloc (.map #[] 0)).heap.size=w.heap.size+1:=by rw [hh]; simp
 have R1:Rel cx st m a (w.alloc (.map #[] 0)):=R.grow (.refl _) (by omega) hold
 have hm:Move cx m (w.alloc (.map #[] 0)) (lk st.lb) ⟨m.own,m.box,m.inn,upd m.mp kk (some w.heap.size)⟩ (w.alloc (.map #[] 0)) (lk ((kk,.set M)::st.lb)):=by
  refine ⟨⟨Nat.le_refl _,λ_ _ _=>rfl,λ_ _ h=>h⟩,λ_ _ h=>h,λk=> ?_⟩
  by_cases e:k=kk
  ·subst e; simp [fZ,hk]
  have:=gZ (cx:=cx) (st:=st) (m:=m) (m':=m) (w:=w) (w':=w) (λ_ _ h=>h) (λ_ h _=>h) (λk B _=> .of_eq rfl) rfl k
  simp only [fZ,aS e] at this ⊢
  cases hl:lk st.lb k with
  | none=>trivial
  | some L=>
   simp only [hl] at this ⊢
   cases L with
   | owned y=>exact .inr (.inl ⟨y,(by first | rfl | trivial),(by first | rfl | trivial),(by first | rfl | trivial),(by first | rfl | trivial),λB _=> .of_eq rfl⟩)
   | deep y=>exact .inr (.inl ⟨y.gK,(by first | rfl | trivial),(by first | rfl | trivial),(by first | rfl | trivial),(by first | rfl | trivial),λB _=> .of_eq rfl⟩)
   | shared y=>simp
   | dead=>rfl
   | set y=>exact .inr ⟨y,(by first | rfl | trivial),bF e⟩
 have hne:∀ k,k≠kk->lk ((kk,fE.set M)::st.lb) k=lk st.lb k:=λk e=>aS e
 refine R1.P9 (.refl _) hm (λ_ _=>rfl) (.refl _) (λb cs hb=> ?_) R1.gI (λk y hy=> ?_) (λk h=> ?_) (R1.bn.keep rfl (λk0 x0=>by
  by_cases e0:k0=kk
  ·subst e0; rw [aX,hk]; exact ⟨λh=>(by cases h),λh=>(by cases h)⟩
  rw [aS e0]) (λ_ _ _=>rfl) hm.ext (λ_ _ _ _ _=>rfl) (λ_ _ _ _=>rfl) (λk B hB=> .inl ⟨k,hB⟩) (λb B hB=> .inl ⟨b,hB⟩)) R1.dK R1.gu R1.je R1.kS R1.sU ⟨λk y hy=> ?_,λk B h=> ?_,λk k' B h h'=> ?_⟩
 ·obtain ⟨B,c,T,h1,h2,h3,h4⟩:=R1.boxes b cs hb
  refine ⟨B,c,T,h1,h2,h3,λj hj=> ?_⟩
  obtain ⟨u,hu,hr⟩:=h4 j hj
  exact ⟨u,hu,hr.move hm⟩
 ·have e:k≠kk:=by rintro rfl; rw [aX] at hy; cases hy
  rw [hne k e] at hy
  exact ⟨(R1.nG k y hy).1,λB hB=>Row.ext hm.ext rfl ((R1.nG k y hy).2 B hB)⟩
 ·by_cases e:k=kk
  ·subst e; exact R.zZ k hk
  exact R1.gX k (by rw [hne k e] at h; exact h)
 ·by_cases e:k=kk
  ·subst e; rw [aX] at hy; cases hy
   refine ⟨w.heap.size,upd_same _ _ _,?_⟩
   rcases hM with rfl | rfl
   ·exact ⟨rfl, #[],0,by rw [hh]; simp,by simp,λs=>⟨λ⟨e,he,_⟩=>absurd he (by simp),λ⟨i,hi,_⟩=>absurd hi (by simp [D.ofList,D.len])⟩⟩
   exact ⟨#[],0,by rw [hh]; simp,λe he=>absurd he (by simp),λk x h=>by cases h⟩
  rw [hne k e] at hy
  obtain ⟨B,h1,h2⟩:=R1.sets.ok k y hy
  exact ⟨B,by simp only [bF e]; exact h1,h2.keep (λ_ _ h=>h) (λ_ _ h=>h.move hm)⟩
 ·simp only [upd] at h
  split at h
  ·obtain rfl:=Option.some.inj h; exact ⟨R.size,by omega⟩
  exact R1.sets.blk k B h
 simp only [upd] at h h'
 split at h<;>split at h'
 ·rename_i e1 e2; rw [e1,e2]
 ·obtain rfl:=Option.some.inj h; have:=(R.sets.blk _ _ h').2; omega
 ·obtain rfl:=Option.some.inj h'; have:=(R.sets.blk _ _ h).2; omega
 exact R1.sets.inj _ _ _ h h'
theorem QB {x:D} {s:ByteArray}:∀ n,adH x s n=true↔∃ i,i<n/\yd x i= .str s
 | 0=>by simp [adH]
 | n+1=>by
  simp only [adH,Bool.or_eq_true,QB n]
  constructor
  ·rintro (⟨i,hi,h⟩ | h)
   ·exact ⟨i,by omega,h⟩
   refine ⟨n,by omega,?_⟩
   split at h
   ·rename_i t e; rw [e,of_decide_eq_true h]
   cases h
  rintro ⟨i,hi,h⟩
  by_cases e:i=n
  ·subst e; right; rw [h]; simp
  left; exact ⟨i,by omega,h⟩
theorem QE {x:D} {s:ByteArray}:UO x s=true↔∃ i,i<x.len/\yd x i= .str s:=QB _
theorem Xn {S:Nat->Prop} {s:ByteArray} {v:Value} (h:RD w S (.str s) v):v= .string s:=by cases h; rfl
theorem Ny (hty:iP P ty) (R:Rel cx st m a w) {lin:Bool} {nm t:Nat} (ho:o.op= .makeMap t none) (aY:((oV ty lin nm t).run st).nO) :
 Good P cx st a w o ((oV ty lin nm t).run st):=by
 revert aY
 unfold oV
 split
 ·split
  ·rcases jy st nm (λkk=> .ret ⟨True,.c (.own kk),[.lab kk (.set (.keys (D.ofList 1 [])))]⟩) with ⟨kk,hk,h⟩ | h
   ·rw [h]
    intro _
    refine Good.val (v:= .map (some w.heap.size)) (w':=w.alloc (.map #[] 0)) ?_ (R.acJ hk (.inl rfl)) ?_
    ·simp [execOp,ho,Instr.makeMap]
    simp only [RA,RU,fD,bK,Wr.put,aX,Rd.run]
    exact ⟨_,upd_same _ _ _,rfl⟩
   rw [h]; exact λh=>h.elim
  ·rcases jy st nm (λkk=> .ret ⟨True,.c (.own kk),[.lab kk (.set (.tab []))]⟩) with ⟨kk,hk,h⟩ | h
   ·rw [h]
    intro _
    refine Good.val (v:= .map (some w.heap.size)) (w':=w.alloc (.map #[] 0)) ?_ (R.acJ hk (.inr rfl)) ?_
    ·simp [execOp,ho,Instr.makeMap]
    simp only [RA,RU,fD,bK,Wr.put,aX,Rd.run]
    exact ⟨_,upd_same _ _ _,rfl⟩
   rw [h]; exact λh=>h.elim
  exact aO
 exact aO
theorem Xq {cx:Cx} {m:Mp} {w w':World} {lb lb':Nat->Option fE} {b off n s:Nat} {v:Value} (h:fD cx m w lb (.xg b off n s) v):fD cx m w' lb' (.xg b off n s) v:=h
theorem QK (hty:iP P ty) (R:Rel cx st m a w) {t:Nat} {x k:Operand} (ho:o.op= .lookup t x k false) (aY:((mO ty t (valOf st x) (valOf st k)).run st).nO) :
 Good P cx st a w o ((mO ty t (valOf st x) (valOf st k)).run st):=by
 have hx:=R.val x
 have hk:=R.val k
 generalize valOf st x=ax at*
 generalize valOf st k=ak at*
 revert aY
 unfold mO
 split
 ·rename_i sz by' ag ze q e en kk s hi
  split
  ·rename_i sz1 by1 ag1 ze1 en1 sz2 by2 ag2 en2 hq he
   simp only [Rd.run]
   split
   ·rename_i y hl
    intro _
    simp only [RA,RU,fD,hl] at hx
    obtain ⟨B,hB,hv⟩:=hx
    obtain ⟨B',hB',_,es,c,h1,h2,h3⟩:=R.sets.ok kk _ hl
    rw [hB] at hB'; obtain rfl:=Option.some.inj hB'
    have hs:=Xn hk
    have hu:=(hty t _ hi).und
    have UF:=(hty q _ hq).und
    obtain ⟨info,i1,i2⟩:=(hty e _ he).zi rfl
    refine Good.val (m':=m) (w':=w) (v:= .bool (UO y s)) ?_ R (RD.bool _)
    have hz:(zeroValue e).run P w= .ok (.bool false) w:=by
     simp [zeroValue,typeInfo,i1,i2]
    rcases MapKept.findNow_spec (d:= .string) (k:= .string s) trivial es.toList 0 (λx hx=>by obtain ⟨⟨s',e'⟩,_⟩:=h2 x hx; rw [e']; trivial) with ⟨g1,g2⟩ | ⟨j,e0,g1,g2,g3⟩
    ·have hf:UO y s=false:=by
      rw [Bool.eq_false_iff]; intro hc
      obtain ⟨e0,he0,hke⟩:=(h3 s).2 (QE.1 hc)
      exact g2 e0 he0 hke
     rw [hf]
     simp [execOp,ho,Instr.lookup,hv,hs,run_underlying hu,MapKept.run_getObj_map h1,MapKept.run_checkKey (k:= .string s) UF trivial,MapKept.run_findKey UF g1,hz,Result.andThen]
    have hmem:e0∈es.toList:=List.mem_of_getElem? g2
    have hf:UO y s=true:=QE.2 ((h3 s).1 ⟨e0,hmem,g3⟩)
    rw [hf]
    simp [execOp,ho,Instr.lookup,hv,hs,run_underlying hu,MapKept.run_getObj_map h1,MapKept.run_checkKey (k:= .string s) UF trivial,MapKept.run_findKey UF g1,(h2 e0 hmem).2,Result.andThen]
   exact aO
  exact aO
 ·rename_i sz by' ag ze q e en kk n hi
  split
  ·rename_i sz1 by1 ag1 ze1 en1 hq
   simp only [Rd.run]
   split
   ·rename_i y hl
    split
    ·rename_i b off l s hlk
     intro hn
     simp only [Rd.run] at hn
     simp only [RA,RU,fD,hl] at hx
     obtain ⟨B,hB,hv⟩:=hx
     obtain ⟨B',hB',es,c,h1,h2,h3⟩:=R.sets.ok kk _ hl
     rw [hB] at hB'; obtain rfl:=Option.some.inj hB'
     have hs:=jl hk
     have hu:=(hty t _ hi).und
     have UF:=(hty q _ hq).und
     have hn':((n.toNat:Nat):Int)=n:=Int.toNat_of_nonneg hn
     rcases MapKept.findNow_spec (d:= .int .i64) (k:= .int .i64 n) rfl es.toList 0 (λx hx=>by obtain ⟨_,_,_,_,_,e',_⟩:=h2 x hx; rw [e']; rfl) with ⟨g1,g2⟩ | ⟨j,e0,g1,g2,g3⟩
     ·obtain ⟨e0,he0,hke⟩:=h3 _ _ hlk
      exact absurd (by rw [hke,hn']) (g2 e0 he0)
     have hmem:e0∈es.toList:=List.mem_of_getElem? g2
     obtain ⟨k,b2,off2,n2,s2,e1,e2,e3⟩:=h2 e0 hmem
     rw [e1] at g3
     injection g3 with _ g3
     have hkk:k=n.toNat:=by omega
     rw [hkk,hlk] at e2
     cases e2
     refine Good.val (m':=m) (w':=w) (v:=e0.val) ?_ R e3
     simp [execOp,ho,Instr.lookup,hv,hs,run_underlying hu,MapKept.run_getObj_map h1,MapKept.run_checkKey (k:= .int .i64 n) UF rfl,MapKept.run_findKey UF g1,Result.andThen]
    exact aO
   exact aO
  exact aO
 exact aO
theorem vV (hty:iP P ty) (R:Rel cx st m a w) {t:Nat} {x k v:Operand} (ho:o.op= .mapUpdate t x k v\/o.op= .insert t x k v) (aY:((iG ty t (valOf st x) (valOf st k) (valOf st v)).run st).nO) :
 Good P cx st a w o ((iG ty t (valOf st x) (valOf st k) (valOf st v)).run st):=by
 have hx:=R.val x
 have hk:=R.val k
 have hv:=R.val v
 generalize valOf st x=ax at*
 generalize valOf st k=ak at*
 generalize valOf st v=av at*
 revert aY
 unfold iG
 split
 ·rename_i sz by' ag ze q e en kk s b hi
  split
  ·rename_i sz1 by1 ag1 ze1 en1 hq
   simp only [Rd.run]
   split
   ·rename_i y hl
    intro hb
    obtain rfl:b=true:=hb
    simp only [RA,RU,fD,hl] at hx
    obtain ⟨B,hB,hx⟩:=hx
    obtain ⟨B',hB',hsl,es,c,h1,h2,h3⟩:=R.sets.ok kk _ hl
    rw [hB] at hB'; obtain rfl:=Option.some.inj hB'
    have hs:=Xn hk
    have hvb:=qB hv
    have hu:=(hty t _ hi).und
    have UF:=(hty q _ hq).und
    have hlt:B<w.heap.size:=(Array.getElem?_eq_some_iff.1 h1).1
    have hput:∀ (es':Array MapEntry) (c':Nat),(∀ e∈es'.toList,(∃ s,e.key= .string s)/\e.val= .bool true)->(∀ t,(∃ e∈es'.toList,e.key= .string t)↔(∃ e∈es.toList,e.key= .string t)\/t=s)->
     (execOp a.eval o).run P w= .ok .skip { w with heap:=w.heap.setIfInBounds B (.map es' c') } ->Good P cx st a w o ⟨True,default,[.lab kk (.set (.keys (D.cat y (D.ofList 1 [[.str s]]))))]⟩:=λes' c' g1 g2 g3=>by
     have hsame:(w.heap.setIfInBounds B (.map es' c'))[B]? =some (.map es' c'):=by simp [hlt]
     have hoth:∀ B',B'≠B->(w.heap.setIfInBounds B (.map es' c'))[B']? =w.heap[B']? :=λB' h=>by simp [Ne.symm h]
     refine Good.skip g3 (R.VQ hl hB h1 (x':= .keys (D.cat y (D.ofList 1 [[.str s]]))) ⟨⟨rfl,rfl,rfl⟩,by simp,λB' hB'=>hoth B' (by have:=(R.sets.blk _ _ hB).1; omega),λB' c0 T z e=>by
      rw [hoth B' (by rintro rfl; rw [h1] at e; cases e)]; exact e⟩ hoth ⟨rfl,es',c',hsame,g1,λt=> ?_⟩) rfl
     rw [g2 t,h3 t]
     have hl2:(D.cat y (D.ofList 1 [[.str s]])).len=y.len+1:=rfl
     have hn:∀ i,yd (D.cat y (D.ofList 1 [[.str s]])) i=if i<y.len then yd y i else (([[D.str s]]:List (List D)).getD (i - y.len) []).getD 0 .undef:=λi=>by
      show ((if i<y.len then y.nth i else _):List D).getD 0 .undef=_
      split<;>rfl
     constructor
     ·rintro (⟨i,hi,h⟩ | rfl)
      ·exact ⟨i,by omega,by rw [hn,if_pos hi]; exact h⟩
      exact ⟨y.len,by omega,by rw [hn,if_neg (by omega)]; simp⟩
     rintro ⟨i,hi,h⟩
     rw [hn] at h
     split at h
     ·rename_i hlt; exact .inl ⟨i,hlt,h⟩
     rename_i hge
     have e0:i - y.len=0:=by omega
     rw [e0] at h
     have h':D.str s=D.str t:=h
     injection h' with h'
     exact .inr h'.symm
    rcases MapKept.findNow_spec (d:= .string) (k:= .string s) trivial es.toList 0 (λx hx=>by obtain ⟨⟨s',e'⟩,_⟩:=h2 x hx; rw [e']; trivial) with ⟨g1,g2⟩ | ⟨j,e0,g1,g2,g3⟩
    ·refine hput (es.push { key:= .string s,val:= .bool true,born:=c }) (c+1) (λe he=> ?_) (λt=> ?_) ?_
     ·simp only [Array.toList_push,List.mem_append,List.mem_singleton] at he
      rcases he with he | rfl
      ·exact h2 e he
      exact ⟨⟨s,rfl⟩,rfl⟩
     ·simp only [Array.toList_push,List.mem_append,List.mem_singleton]
      constructor
      ·rintro ⟨e,he | rfl,hk⟩
       ·exact .inl ⟨e,he,hk⟩
       injection hk with hk; exact .inr hk.symm
      rintro (⟨e,he,hk⟩ | rfl)
      ·exact ⟨e,.inl he,hk⟩
      exact ⟨_,.inr rfl,rfl⟩
     rcases ho with ho | ho<;>simp [execOp,ho,Instr.mapUpdate,hx,hs,hvb,run_underlying hu,MapKept.run_getObj_map h1,MapKept.run_checkKey (k:= .string s) UF trivial,MapKept.run_findKey UF g1,MapKept.run_setObj_map _ h1,Result.andThen]
    have hmem:e0∈es.toList:=List.mem_of_getElem? g2
    have hj:es[j]? =some e0:=by simpa using g2
    refine hput (es.modify j λe=> { e with key:= .string s,val:= .bool true }) c (λe he=> ?_) (λt=> ?_) ?_
    ·obtain ⟨i,hi⟩:=Array.mem_iff_getElem?.1 (Array.mem_toList_iff.1 he)
     rw [Array.getElem?_modify] at hi
     split at hi
     ·rename_i e1; subst e1
      rw [hj] at hi
      obtain rfl:=Option.some.inj hi
      exact ⟨⟨s,rfl⟩,rfl⟩
     exact h2 e (Array.mem_toList_iff.2 (Array.mem_iff_getElem?.2 ⟨i,hi⟩))
    ·constructor
     ·rintro ⟨e,he,hk⟩
      obtain ⟨i,hi⟩:=Array.mem_iff_getElem?.1 (Array.mem_toList_iff.1 he)
      rw [Array.getElem?_modify] at hi
      split at hi
      ·rename_i e1; subst e1
       rw [hj] at hi
       obtain rfl:=Option.some.inj hi
       injection hk with hk; exact .inr hk.symm
      exact .inl ⟨e,Array.mem_toList_iff.2 (Array.mem_iff_getElem?.2 ⟨i,hi⟩),hk⟩
     have hnew:(es.modify j λe=> { e with key:= .string s,val:= .bool true })[j]? =some { e0 with key:= .string s,val:= .bool true } :=by
      rw [Array.getElem?_modify,if_pos rfl,hj]; rfl
     rintro (⟨e,he,hk⟩ | rfl)
     ·obtain ⟨i,hi⟩:=Array.mem_iff_getElem?.1 (Array.mem_toList_iff.1 he)
      by_cases e1:j=i
      ·subst e1
       rw [hj] at hi
       obtain rfl:=Option.some.inj hi
       rw [g3] at hk
       injection hk with hk
       exact ⟨_,Array.mem_toList_iff.2 (Array.mem_iff_getElem?.2 ⟨j,hnew⟩),by rw [<- hk]⟩
      exact ⟨e,Array.mem_toList_iff.2 (Array.mem_iff_getElem?.2 ⟨i,by rw [Array.getElem?_modify,if_neg e1]; exact hi⟩),hk⟩
     exact ⟨_,Array.mem_toList_iff.2 (Array.mem_iff_getElem?.2 ⟨j,hnew⟩),rfl⟩
    rcases ho with ho | ho<;>simp [execOp,ho,Instr.mapUpdate,hx,hs,hvb,run_underlying hu,MapKept.run_getObj_map h1,MapKept.run_checkKey (k:= .string s) UF trivial,MapKept.run_findKey UF g1,MapKept.run_setObj_map _ h1,hj,g3,MapKept.run_keyThatStays (d:= .string) (k:= .string s) trivial,Result.andThen]
   exact aO
  exact aO
 ·rename_i sz by' ag ze q e en kk n b off len s hi
  split
  ·rename_i sz1 by1 ag1 ze1 en1 hq
   simp only [Rd.run]
   split
   ·rename_i l hl
    intro hb
    obtain ⟨hn,hnone⟩:=hb
    have hnone:lk l n.toNat=none:=by simpa using hnone
    simp only [RA,RU,fD,hl] at hx
    obtain ⟨B,hB,hx⟩:=hx
    obtain ⟨B',hB',es,c,h1,h2,h3⟩:=R.sets.ok kk _ hl
    rw [hB] at hB'; obtain rfl:=Option.some.inj hB'
    have hs:=jl hk
    have hu:=(hty t _ hi).und
    have UF:=(hty q _ hq).und
    have hlt:B<w.heap.size:=(Array.getElem?_eq_some_iff.1 h1).1
    have hn':((n.toNat:Nat):Int)=n:=Int.toNat_of_nonneg hn
    rcases MapKept.findNow_spec (d:= .int .i64) (k:= .int .i64 n) rfl es.toList 0 (λx hx=>by obtain ⟨_,_,_,_,_,e',_⟩:=h2 x hx; rw [e']; rfl) with ⟨g1,g2⟩ | ⟨j,e0,g1,g2,g3⟩
    ·have hsame:(w.heap.setIfInBounds B (.map (es.push { key:= .int .i64 n,val:=a.eval v,born:=c }) (c+1)))[B]? =some (.map (es.push { key:= .int .i64 n,val:=a.eval v,born:=c }) (c+1)):=by simp [hlt]
     have hoth:∀ B',B'≠B->(w.heap.setIfInBounds B (.map (es.push { key:= .int .i64 n,val:=a.eval v,born:=c }) (c+1)))[B']? =w.heap[B']? :=λB' h=>by simp [Ne.symm h]
     refine Good.skip (w':= { w with heap:=w.heap.setIfInBounds B (.map (es.push { key:= .int .i64 n,val:=a.eval v,born:=c }) (c+1)) }) ?_ (R.VQ hl hB h1 (x':= .tab ((n.toNat,b,off,len,s)::l)) ⟨⟨rfl,rfl,rfl⟩,by simp,λB' hB'=>hoth B' (by have:=(R.sets.blk _ _ hB).1; omega),λB' c0 T z e=>by
      rw [hoth B' (by rintro rfl; rw [h1] at e; cases e)]; exact e⟩ hoth ⟨_,_,hsame,λe he=> ?_,λk x hkx=> ?_⟩) rfl
     ·rcases ho with ho | ho<;>simp [execOp,ho,Instr.mapUpdate,hx,hs,run_underlying hu,MapKept.run_getObj_map h1,MapKept.run_checkKey (k:= .int .i64 n) UF rfl,MapKept.run_findKey UF g1,MapKept.run_setObj_map _ h1,Result.andThen]
     ·simp only [Array.toList_push,List.mem_append,List.mem_singleton] at he
      rcases he with he | rfl
      ·obtain ⟨k,b2,off2,n2,s2,e1,e2,e3⟩:=h2 e he
       refine ⟨k,b2,off2,n2,s2,e1,?_,Xq e3⟩
       rw [aS (by rintro rfl; rw [hnone] at e2; cases e2)]; exact e2
      exact ⟨n.toNat,b,off,len,s,by rw [hn'],aX _ _ _,Xq (w:=w) (lb:=lk st.lb) hv⟩
     simp only [Array.toList_push,List.mem_append,List.mem_singleton]
     by_cases e:k=n.toNat
     ·exact ⟨_,.inr rfl,by rw [e,hn']⟩
     rw [aS e] at hkx
     obtain ⟨e0,he0,hke⟩:=h3 k x hkx
     exact ⟨e0,.inl he0,hke⟩
    have hmem:e0∈es.toList:=List.mem_of_getElem? g2
    obtain ⟨k,b2,off2,n2,s2,e1,e2,e3⟩:=h2 e0 hmem
    rw [e1] at g3
    injection g3 with _ g3
    have hkk:k=n.toNat:=by omega
    rw [hkk,hnone] at e2
    cases e2
   exact aO
  exact aO
 exact aO
end
end Go.dR
set_option linter.unusedVariables false
set_option linter.unusedSimpArgs false
namespace Go.dR
def Ov (w:World) (S:Nat->Prop):Arg->Value->Prop
 | .c x,v=>RD w S x v
 | .agg l,v=>∃ vs,v= .agg vs/\vs.size=l.length/\∀ i,i<l.length->∃ u,vs[i]? =some u/\RD w S (l.getD i .undef) u
 | .ptr l,v=>Ptr w S l 0 v
 | .clo f caps,v=>∃ vs,v= .func (.func f) #[] vs/\vs.size=caps.length/\∀ i,i<caps.length->∃ u,vs[i]? =some u/\Ptr w S (caps.getD i []) 0 u
def jH (w:World) (S:Nat->Prop):List Arg->List Value->Prop
 | [],[]=>True
 | x::r,v::vs=>Ov w S x v/\jH w S r vs
 | _,_=>False
def xB:List RC->Nat
 | []=>0
 | .own _::r=>xB r+1
 | .d _::r=>xB r
def RV.cells:RV->List RC | .c x=>[x] | .agg l=>l
def Ou (w:World) (S:Nat->Prop) (own:Nat->Option Nat):Nat->List RC->List Value->Prop
 | _,[],[]=>True
 | j,.d x::r,v::vs=>RD w S x v/\Ou w S own j r vs
 | j,.own x::r,v::vs=>(x.cu=true/\nN w (own j) x v/\∀ B,own j=some B->Row w S B x)/\Ou w S own (j+1) r vs
 | _,_,_=>False
def RRv (w:World) (S:Nat->Prop) (own:Nat->Option Nat) (j:Nat):RV->Value->Prop
 | .c x,v=>Ou w S own j [x] [v]
 | .agg l,v=>∃ vs,v= .agg vs/\Ou w S own j l vs.toList
def RN (w:World) (S:Nat->Prop) (own:Nat->Option Nat):Nat->List RV->List Value->Prop
 | _,[],[]=>True
 | j,r::rs,v::vs=>RRv w S own j r v/\RN w S own (j+xB r.cells) rs vs
 | _,_,_=>False
def RQ (w:World) (S:Nat->Prop) (own:Nat->Option Nat) (rs:List RV) (v:Value):Prop:=
 match rs with
 | [r]=>RRv w S own 0 r v
 | rs=>∃ vs,v= .tuple vs/\RN w S own 0 rs vs.toList
structure Left (w w':World) (S0:Nat->Prop) (sp:fO) (args:List Arg) (v:Value):Prop where
 env:dS w w'
 size:w.heap.size<=w'.heap.size
 old:∀ B,B<w.heap.size->w'.heap[B]? =w.heap[B]?
 res:∃ own:Nat->Option Nat,(∀ j B,own j=some B->w.heap.size<=B/\B<w'.heap.size)/\(∀ i j B,own i=some B->own j=some B->i=j)/\
  RQ w' (λB=>((sp.alias=true/\S0 B)\/w.heap.size<=B)/\∀ j,own j≠some B) own (sp.res args) v
def Valid (P:Program) (f:Nat) (sp:fO):Prop:=
 ∀ (S0:Nat->Prop) (w:World) (args:List Arg) (vs:Array Value),uw w->(∀ B,S0 B->B<w.heap.size)->jH w S0 args vs.toList->sp.pre args->
  Calls P f vs w λe w'=>∃ v,e= .returned v/\Left w w' S0 sp args v
structure aF (P:Program) (f:Nat) (sp:fO):Prop where
 enter:∃ fn,P.funcs[f]? =some fn/\(fn.name == "runtime.NumGoroutine")=false/\fn.body.isNone=false
 valid:Valid P f sp
def fM (P:Program) (tb:qj):Prop:=∀ f sp,tb f=some sp->aF P f sp
section
variable {P:Program} {ty:iT} {tb:qj} {cx:Cx} {st:St} {m m1 m':Mp} {a:Act} {w w':World} {o:Oper} {out:Out}
theorem Rel.Xx (R:Rel cx st m a w) (N:Nat->Option D) (ow:Nat->Option Nat) {lb:List (Nat×fE)} (hs:w.heap.size<=w'.heap.size) (he:dS w w')
 (hold:∀ B,B<w.heap.size->w'.heap[B]? =w.heap[B]?)
 (hN1:∀ k x,N k=some x->lk st.lb k=none/\lk lb k=some (.owned x)/\x.cu=true/\∀ B,ow k=some B->w.heap.size<=B/\B<w'.heap.size/\Row w' (λB'=>fP cx m B'/\∀ k,ow k≠some B') B x)
 (hN2:∀ k,N k=none->lk lb k=lk st.lb k/\ow k=none) (hinj:∀ k k' B,ow k=some B->ow k'=some B->k=k') :
 Rel cx ⟨st.sl,st.bx,lb⟩ ⟨λk=>(match N k with | some _=>ow k | none=>m.own k),m.box,m.inn,m.mp⟩ a w':=by
 have hcase:∀ k B,(match N k with | some _=>ow k | none=>m.own k)=some B->(ow k=some B/\∃ x,N k=some x)\/(N k=none/\m.own k=some B):=by
  intro k B h
  cases hn:N k with
  | none=>simp only [hn] at h; exact .inr ⟨rfl,h⟩
  | some x=>simp only [hn] at h; exact .inl ⟨h,x,rfl⟩
 have hnew:∀ k B,ow k=some B->w.heap.size<=B/\B<w'.heap.size:=by
  intro k B h
  cases hn:N k with
  | none=>rw [(hN2 k hn).2] at h; cases h
  | some x=>exact ⟨((hN1 k x hn).2.2.2 B h).1,((hN1 k x hn).2.2.2 B h).2.1⟩
 have hsub:∀ B',fP cx m B'->(∀ k,ow k≠some B')->fP cx ⟨λk=>(match N k with | some _=>ow k | none=>m.own k),m.box,m.inn,m.mp⟩ B':=λB' h hne=>⟨h.1,λk hk=>by
  rcases hcase k B' hk with ⟨h1,_⟩ | ⟨_,h1⟩
  ·exact hne k h1
  exact h.2.1 k h1,h.2.2⟩
 have hm:Move cx m w (lk st.lb) ⟨λk=>(match N k with | some _=>ow k | none=>m.own k),m.box,m.inn,m.mp⟩ w' (lk lb):=by
  refine ⟨⟨hs,λB hB _=>hold B hB,λB hB hS=>hsub B hS (λk h=>by have:=hnew k B h; omega)⟩,λ_ _ h=>h,λk=> ?_⟩
  simp only [fZ]
  cases hl:lk st.lb k with
  | none=>trivial
  | some L=>
   have hn:N k=none:=by
    cases hn:N k with
    | none=>rfl
    | some x=>rw [(hN1 k x hn).1] at hl; cases hl
   have hlk:=(hN2 k hn).1
   cases L with
   | dead=>simp [hlk,hl]
   | shared x=>simp [hlk,hl]
   | owned x=>exact .inr (.inl ⟨x,by rw [hlk,hl]; rfl,rfl,rfl,by simp only [hn],λB hB=> .of_eq (hold B (R.dK k B hB).2)⟩)
   | deep x=>exact .inr (.inl ⟨x.gK,by rw [hlk,hl]; rfl,rfl,rfl,by simp only [hn],λB hB=> .of_eq (hold B (R.dK k B hB).2)⟩)
   | set x=>exact .inr ⟨x,by rw [hlk,hl],by first | rfl | trivial⟩
 refine R.jC he hm (λB hB=>hold B (Nat.lt_of_lt_of_le hB R.size)) (.grow hold) (λb cs hb=> ?_) R.gI (λk y hy=> ?_) (λk hk=> ?_) (R.bn.keep rfl (λk0 x0=>by
  cases hn:N k0 with
  | none=>rw [(hN2 k0 hn).1]
  | some x=>rw [(hN1 k0 x hn).1,(hN1 k0 x hn).2.1]; exact ⟨λh=>(by cases h),λh=>(by cases h)⟩) (λk0 x0 h0=>by
  have n0:N k0=none:=by
   cases hn:N k0 with
   | none=>rfl
   | some x=>rw [(hN1 k0 x hn).1] at h0; cases h0
  simp only [n0]) hm.ext (λk0 _ B _ hB=>hold B (R.dK k0 B hB).2) (λk0 j0 B hB=>hold B (R.bn.blk k0 j0 B hB).2) (λk0 B h=>by
  rcases hcase k0 B h with ⟨h1,_⟩ | ⟨_,h1⟩
  ·exact .inr (hnew k0 B h1).1
  ·exact .inl ⟨_,h1⟩) (λb B hB=> .inl ⟨b,hB⟩)) ?_
  (λb B hb=>⟨(R.gu b B hb).1,Nat.lt_of_lt_of_le (R.gu b B hb).2 hs⟩) ?_ R.kS ?_ rfl (λk x h=>by
   cases hn:N k with
   | none=>rw [(hN2 k hn).1] at h; exact h
   | some y=>rw [(hN1 k y hn).2.1] at h; cases h)
 ·obtain ⟨B,c,T,h1,h2,h3,h4⟩:=R.boxes b cs hb
  refine ⟨B,c,T,h1,by rw [hold B (R.gu b B h1).2]; exact h2,h3,λj hj=> ?_⟩
  obtain ⟨u,hu,hr⟩:=h4 j hj
  exact ⟨u,hu,hr.move hm⟩
 ·cases hn:N k with
  | none=>
   rw [(hN2 k hn).1] at hy
   refine ⟨(R.nG k y hy).1,λB h=> ?_⟩
   simp only [hn] at h
   exact ((R.nG k y hy).2 B h).ext hm.ext (hold B (R.dK k B h).2)
  | some x=>
   obtain ⟨h1,h2,h3,h4⟩:=hN1 k x hn
   rw [h2] at hy
   obtain ⟨⟩:=Option.some.inj hy
   refine ⟨h3,λB h=> ?_⟩
   simp only [hn] at h
   exact Row.ext ⟨Nat.le_refl _,λ_ _ _=>rfl,λB' _ h=>hsub B' h.1 h.2⟩ rfl (h4 B h).2.2
 ·cases hn:N k with
  | none=>
   simp only [hn]
   exact R.gX k (by rw [(hN2 k hn).1] at hk; exact hk)
  | some x=>rw [(hN1 k x hn).2.1] at hk; cases hk
 ·intro k B h
  rcases hcase k B h with ⟨h1,_⟩ | ⟨_,h1⟩
  ·exact ⟨Nat.le_trans R.size (hnew k B h1).1,(hnew k B h1).2⟩
  exact ⟨(R.dK k B h1).1,Nat.lt_of_lt_of_le (R.dK k B h1).2 hs⟩
 ·intro k1 k2 B h1 h2
  rcases hcase k1 B h1 with ⟨g1,_⟩ | ⟨_,g1⟩<;>rcases hcase k2 B h2 with ⟨g2,_⟩ | ⟨_,g2⟩
  ·exact hinj _ _ _ g1 g2
  ·have:=hnew k1 B g1; have:=R.dK k2 B g2; omega
  ·have:=hnew k2 B g2; have:=R.dK k1 B g1; omega
  exact R.je _ _ _ g1 g2
 intro k b B h1 h2
 rcases hcase k B h1 with ⟨g1,_⟩ | ⟨_,g1⟩
 ·have:=hnew k B g1; have:=R.gu b B h2; omega
 exact R.sU k b B g1 h2
def IJ (st:St):Cap->List D->Prop
 | .ref b 0,ds=>∃ cs,lk st.bx b=some cs/\VL (lk st.lb) cs ds
 | .dM l 0,ds=>ds=l
 | _,_=>False
def Dl (st:St):List Cap->List (List D)->Prop
 | [],[]=>True
 | c::r,d::ds=>IJ st c d/\Dl st r ds
 | _,_=>False
def Yu (st:St) (v:AV) (x:Arg):Prop:=
 (∃ g caps ds,v= .u (.c (.clo g caps))/\x= .clo g ds/\Dl st caps ds)\/(∃ y d,v= .u (.c y)/\x= .c d/\DOf (lk st.lb) y d)\/(∃ l ds,v= .u (.agg l)/\x= .agg ds/\VL (lk st.lb) l ds)\/
  (∃ b off n s cs ds,v= .u (.c (.xg b off n s))/\lk st.bx b=some cs/\off+n*s<=cs.length/\0<s/\VL (lk st.lb) ((cs.drop off).take (n*s)) ds/\x= .c (D.ofList s (chunks s ds n)))
def zq (st:St):List AV->List Arg->Prop
 | [],[]=>True
 | v::r,x::xs=>Yu st v x/\zq st r xs
 | _,_=>False
theorem YR (st:St) (x:Cap) (f:List D->Rd Out):(∃ d,IJ st x d/\(Ic x f).run st=(f d).run st)\/(Ic x f).run st=⟨False,default,[]⟩:=by
 unfold Ic
 split
 ·rename_i b
  simp only [Rd.run]
  split
  ·rename_i cs hb
   rcases zL st cs f with ⟨ds,hds,h⟩ | h
   ·exact .inl ⟨ds,⟨cs,hb,hds⟩,h⟩
   exact .inr h
  exact .inr rfl
 ·exact .inl ⟨_,rfl,rfl⟩
 exact .inr rfl
theorem FU (st:St) (l:List Cap) (f:List (List D)->Rd Out):(∃ d,Dl st l d/\(lM l f).run st=(f d).run st)\/(lM l f).run st=⟨False,default,[]⟩:=by
 induction l generalizing f with
 | nil=>exact .inl ⟨[],trivial,rfl⟩
 | cons x r ih=>
  simp only [lM]
  rcases YR st x (λd=>lM r λds=>f (d::ds)) with ⟨d,hd,h⟩ | h
  ·rw [h]
   rcases ih (λds=>f (d::ds)) with ⟨ds,hds,h2⟩ | h2
   ·exact .inl ⟨d::ds,⟨hd,hds⟩,h2⟩
   exact .inr h2
  exact .inr h
theorem YP (st:St) (v:AV) (f:Arg->Rd Out):(∃ x,Yu st v x/\(toArg v f).run st=(f x).run st)\/(toArg v f).run st=⟨False,default,[]⟩:=by
 unfold toArg
 split
 ·rename_i g caps
  rcases FU st caps (λds=>f (.clo g ds)) with ⟨ds,hds,h⟩ | h
  ·exact .inl ⟨_,.inl ⟨g,caps,ds,rfl,rfl,hds⟩,h⟩
  exact .inr h
 ·rename_i b off n s
  simp only [Rd.run]
  split
  ·rename_i cs hb
   unfold aeV
   split
   ·rename_i hc
    rcases zL st ((cs.drop off).take (n*s)) (λds=>f (.c (D.ofList s (chunks s ds n)))) with ⟨ds,hds,h⟩ | h
    ·exact .inl ⟨_,.inr (.inr (.inr ⟨b,off,n,s,cs,ds,rfl,hb,hc.1,hc.2,hds,rfl⟩)),h⟩
    exact .inr h
   exact .inr rfl
  exact .inr rfl
 ·rename_i y _ _
  rcases wH st y (λd=>f (.c d)) with ⟨d,hd,h⟩ | h
  ·exact .inl ⟨_,.inr (.inl ⟨y,d,rfl,rfl,hd⟩),h⟩
  exact .inr h
 ·rename_i l
  rcases zL st l (λds=>f (.agg ds)) with ⟨ds,hd,h⟩ | h
  ·exact .inl ⟨_,.inr (.inr (.inl ⟨l,ds,rfl,rfl,hd⟩)),h⟩
  exact .inr h
 exact .inr rfl
theorem TB (st:St) (l:List AV) (f:List Arg->Rd Out):(∃ xs,zq st l xs/\(mF l f).run st=(f xs).run st)\/(mF l f).run st=⟨False,default,[]⟩:=by
 induction l generalizing f with
 | nil=>exact .inl ⟨[],trivial,rfl⟩
 | cons x r ih=>
  simp only [mF]
  rcases YP st x (λd=>mF r λds=>f (d::ds)) with ⟨d,hd,h⟩ | h
  ·rw [h]
   rcases ih (λds=>f (d::ds)) with ⟨ds,hds,h2⟩ | h2
   ·exact .inl ⟨d::ds,⟨hd,hds⟩,h2⟩
   exact .inr h2
  exact .inr h
theorem Rel.cap (R:Rel cx st m a w) {c:Cap} {d:List D} {v:Value} (hd:IJ st c d) (hx:Dj cx m w c v):Ptr w (Known cx w) d 0 v:=by
 unfold IJ at hd
 split at hd
 ·rename_i b
  obtain ⟨cs,hb,hds⟩:=hd
  obtain ⟨B,hB,rfl⟩:=hx
  obtain ⟨B',c,T,h1,h2,h3,h4⟩:=R.boxes b cs hb
  obtain rfl:B=B':=Option.some.inj (hB.symm.trans h1)
  have hk:=R.gu b B hB
  refine ⟨B,0,rfl,hk.2,⟨hk.2,.inr hk.1⟩,λj hj=> ?_⟩
  rw [hds.1] at hj
  obtain ⟨u,hu,hr⟩:=h4 j hj
  exact ⟨u,by simp [World.cell?,h2,hu],R.dof (hds.2 j hj) hr⟩
 ·subst hd; exact Ptr.ext (rV cx m w) hx
 exact hd.elim
theorem Rel.caps (R:Rel cx st m a w):∀ {cs:List Cap} {ds:List (List D)} {vs:List Value},Dl st cs ds->vs.length=cs.length->(∀ i,i<cs.length->∃ u,vs[i]? =some u/\Dj cx m w (cs.getD i (.ref 0 0)) u)->
 ds.length=cs.length/\∀ i,i<ds.length->∃ u,vs[i]? =some u/\Ptr w (Known cx w) (ds.getD i []) 0 u
 | [],[],_,_,_,_=>⟨rfl,λi hi=>by simp at hi⟩
 | [],_::_,_,h,_,_=>h.elim
 | _::_,[],_,h,_,_=>h.elim
 | c::cs,d::ds,[],_,hl,_=>by simp at hl
 | c::cs,d::ds,v::vs,h,hl,hv=>by
  obtain ⟨h1,h2⟩:=Rel.caps R h.2 (by simpa using hl) (λi hi=>by simpa using hv (i+1) (by simpa using hi))
  refine ⟨by simp [h1],λi hi=> ?_⟩
  cases i with
  | zero=>
   obtain ⟨u,hu,hr⟩:=hv 0 (by simp)
   exact ⟨u,hu,R.cap h.1 hr⟩
  | succ i=>simpa using h2 i (by simpa using hi)
theorem Rel.arg (R:Rel cx st m a w) {v:AV} {x:Arg} {u:Value} (h:Yu st v x) (hv:RA cx m w (lk st.lb) v u):Ov w (Known cx w) x u:=by
 rcases h with ⟨g,caps,ds,rfl,rfl,h⟩ | ⟨y,d,rfl,rfl,h⟩ | ⟨l,ds,rfl,rfl,h⟩ | ⟨b,off,n,s,cs,ds,rfl,hb,hle,hs0,hds,rfl⟩
 ·obtain ⟨vs,rfl,hsz,hc⟩:=hv
  obtain ⟨h1,h2⟩:=R.caps (vs:=vs.toList) h (by simpa using hsz) (λi hi=>by simpa using hc i hi)
  exact ⟨vs,rfl,by rw [hsz,h1],λi hi=>by simpa using h2 i hi⟩
 ·exact R.dof h hv
 ·obtain ⟨vs,rfl,hsz,hc⟩:=hv
  refine ⟨vs,rfl,by rw [hsz,h.1],λi hi=> ?_⟩
  rw [h.1] at hi
  obtain ⟨u,hu,hr⟩:=hc i hi
  exact ⟨u,hu,R.dof (h.2 i hi) hr⟩
 obtain ⟨B,cap,hB,hcap,rfl⟩:=hv
 obtain ⟨B',c,T,h1,h2,h3,h4⟩:=R.boxes b cs hb
 obtain rfl:B=B':=Option.some.inj (hB.symm.trans h1)
 have hk:=R.gu b B hB
 have hdl:ds.length=n*s:=by rw [hds.1]; simp; omega
 have hlen:(chunks s ds n).length=n:=qY _ _ _
 show RD w (Known cx w) (.sl s (chunks s ds n).length (λi=>(chunks s ds n).getD i [])) _
 rw [hlen]
 by_cases h0:n=0
 ·subst h0; exact .sl0 _ _ _ _
 have hcell:∀ q,q<n*s->∃ u,c[off+q]? =some u/\RD w (Known cx w) (ds.getD q .undef) u:=λq hq=>by
  obtain ⟨u,hu,hr⟩:=h4 (off+q) (by omega)
  refine ⟨u,hu,R.dof ?_ hr⟩
  have:=hds.2 q (by simp; omega)
  rwa [show ((cs.drop off).take (n*s)).getD q .undef=cs.getD (off+q) .undef by simp [List.getD_eq_getElem?_getD,List.getElem?_take,hq]] at this
 have hidx:∀ i j,i<n->j<s->i*s+j<n*s:=λi j hi hj=>by
  have:(i+1)*s<=n*s:=Nat.mul_le_mul_right s hi
  rw [Nat.add_mul] at this
  omega
 refine .sl s n _ B off cap (λi j=>(c[off+(i*s+j)]?).getD undef) (by omega) hcap hk.2 ⟨hk.2,.inr hk.1⟩ (λi hi=>(yQ s ds n hdl i hi).1) (λi j hi hj=> ?_) (λi j hi hj=> ?_)
 ·obtain ⟨u,hu,hr⟩:=hcell _ (hidx i j hi hj)
  simp [World.cell?,h2,hu]
 obtain ⟨u,hu,hr⟩:=hcell _ (hidx i j hi hj)
 have e:=(yQ s ds n hdl i hi).2 j hj
 rw [List.getD_eq_getElem?_getD,e, <- List.getD_eq_getElem?_getD,hu]
 exact hr
def qZ (lin:Bool):List RC->List AC->List (Nat×D)->Prop
 | [],[],[]=>True
 | .d x::r,.d y::cs,ls=>x=y/\qZ lin r cs ls
 | .own x::r,.own k::cs,p::ls=>(lin=true/\k=p.1/\x=p.2)/\qZ lin r cs ls
 | .own x::r,.d y::cs,ls=>(lin=false/\x=y)/\qZ lin r cs ls
 | _,_,_=>False
def ay4 (lin:Bool):RV->AU->List (Nat×D)->Prop
 | .c x,.c y,ls=>qZ lin [x] [y] ls
 | .agg l,.agg cs,ls=>qZ lin l cs ls
 | _,_,_=>False
def DT (lin:Bool):List RV->List AU->List (Nat×D)->Prop
 | [],[],ls=>ls=[]
 | r::rs,x::xs,ls=>∃ l1 l2,ls=l1++l2/\ay4 lin r x l1/\DT lin rs xs l2
 | _,_,_=>False
theorem zM (st:St) (lin:Bool) (nm:Nat) (l:List RC):∀ (j:Nat) (f:Nat->List AC->List (Nat×D)->Rd Out),
 (∃ j' cs ls,(eP lin nm j l f).run st=(f j' cs ls).run st/\(∀ p∈ls,lk st.lb p.1=none)/\qZ lin l cs ls)\/(eP lin nm j l f).run st=⟨False,default,[]⟩:=by
 induction l with
 | nil=>intro j f; exact .inl ⟨j,[],[],rfl,by simp,trivial⟩
 | cons x r ih=>
  intro j f
  cases x with
  | d x=>
   simp only [eP]
   rcases ih j (λj cs ls=>f j (.d x::cs) ls) with ⟨j',cs,ls,h1,h2,h3⟩ | h
   ·exact .inl ⟨j',.d x::cs,ls,h1,h2,rfl,h3⟩
   ·exact .inr h
  | own x=>
   simp only [eP]
   cases lin with
   | true=>
    simp only [if_true]
    rcases jy st (nm+10000*j) (λk=>eP true nm (j+1) r λj cs ls=>f j (.own k::cs) ((k,x)::ls)) with ⟨k,hk,h⟩ | h
    ·rw [h]
     rcases ih (j+1) (λj cs ls=>f j (.own k::cs) ((k,x)::ls)) with ⟨j',cs,ls,h1,h2,h3⟩ | h
     ·refine .inl ⟨j',.own k::cs,(k,x)::ls,h1,λp hp=> ?_,⟨rfl,rfl,rfl⟩,h3⟩
      rcases List.mem_cons.1 hp with rfl | hp
      ·exact hk
      exact h2 p hp
     exact .inr h
    ·exact .inr h
   | false=>
    simp only [Bool.false_eq_true,if_false]
    rcases ih j (λj cs ls=>f j (.d x::cs) ls) with ⟨j',cs,ls,h1,h2,h3⟩ | h
    ·exact .inl ⟨j',.d x::cs,ls,h1,h2,⟨rfl,rfl⟩,h3⟩
    exact .inr h
theorem qZ.len {lin:Bool}:∀ {l:List RC} {cs:List AC} {ls:List (Nat×D)},qZ lin l cs ls->cs.length=l.length
 | [],[],[],_=>rfl
 | [],[],_::_,h=>h.elim
 | [],_::_,_,h=>by cases ‹List (Nat×D)› <;>exact h.elim
 | .d x::r,[],ls,h=>by cases ls<;>exact h.elim
 | .d x::r,.d y::cs,ls,h=>by have:=qZ.len h.2; simp [this]
 | .d x::r,.undef::cs,ls,h=>by cases ls<;>exact h.elim
 | .d x::r,.dF::cs,ls,h=>by cases ls<;>exact h.elim
 | .d x::r,.own _::cs,ls,h=>by cases ls<;>exact h.elim
 | .d x::r,.ref _ _::cs,ls,h=>by cases ls<;>exact h.elim
 | .d x::r,.iE _ _ _::cs,ls,h=>by cases ls<;>exact h.elim
 | .d x::r,.dM _ _::cs,ls,h=>by cases ls<;>exact h.elim
 | .d x::r,.clo _ _::cs,ls,h=>by cases ls<;>exact h.elim
 | .own x::r,[],ls,h=>by cases ls<;>exact h.elim
 | .own x::r,.d y::cs,ls,h=>by
  cases ls<;>(have:=qZ.len h.2; simp [this])
 | .own x::r,.own k::cs,[],h=>h.elim
 | .own x::r,.own k::cs,p::ls,h=>by have:=qZ.len h.2; simp [this]
 | .own x::r,.undef::cs,ls,h=>by cases ls<;>exact h.elim
 | .own x::r,.dF::cs,ls,h=>by cases ls<;>exact h.elim
 | .own x::r,.ref _ _::cs,ls,h=>by cases ls<;>exact h.elim
 | .own x::r,.iE _ _ _::cs,ls,h=>by cases ls<;>exact h.elim
 | .own x::r,.dM _ _::cs,ls,h=>by cases ls<;>exact h.elim
 | .own x::r,.clo _ _::cs,ls,h=>by cases ls<;>exact h.elim
theorem YQ (st:St) (lin:Bool) (nm:Nat) (r:RV) (j:Nat) (f:Nat->AU->List (Nat×D)->Rd Out) :
 (∃ j' x ls,(Dy lin nm j r f).run st=(f j' x ls).run st/\(∀ p∈ls,lk st.lb p.1=none)/\ay4 lin r x ls)\/(Dy lin nm j r f).run st=⟨False,default,[]⟩:=by
 cases r with
 | c x=>
  simp only [Dy]
  rcases zM st lin nm [x] j (λj cs ls=>f j (.c (cs.getD 0 .undef)) ls) with ⟨j',cs,ls,h1,h2,h3⟩ | h
  ·have hl:=h3.len
   match cs,hl with
   | [c],_=>exact .inl ⟨j',_,ls,h1,h2,h3⟩
  ·exact .inr h
 | agg l=>
  simp only [Dy]
  rcases zM st lin nm l j (λj cs ls=>f j (.agg cs) ls) with ⟨j',cs,ls,h1,h2,h3⟩ | h
  ·exact .inl ⟨j',_,ls,h1,h2,h3⟩
  exact .inr h
theorem TD (st:St) (lin:Bool) (nm:Nat) (rs:List RV):∀ (j:Nat) (f:List AU->List (Nat×D)->Rd Out),
 (∃ xs ls,(qQ lin nm j rs f).run st=(f xs ls).run st/\(∀ p∈ls,lk st.lb p.1=none)/\DT lin rs xs ls)\/(qQ lin nm j rs f).run st=⟨False,default,[]⟩:=by
 induction rs with
 | nil=>intro j f; exact .inl ⟨[],[],rfl,by simp,rfl⟩
 | cons r rs ih=>
  intro j f
  simp only [qQ]
  rcases YQ st lin nm r j (λj x ls=>qQ lin nm j rs λxs ls'=>f (x::xs) (ls++ls')) with ⟨j',x,l1,h1,h2,h3⟩ | h
  ·rw [h1]
   rcases ih j' (λxs ls'=>f (x::xs) (l1++ls')) with ⟨xs,l2,g1,g2,g3⟩ | h
   ·refine .inl ⟨x::xs,l1++l2,g1,λp hp=> ?_,l1,l2,rfl,h3,g3⟩
    rcases List.mem_append.1 hp with hp | hp
    ·exact h2 p hp
    exact g2 p hp
   exact .inr h
  exact .inr h
theorem qZ.nil:∀ {l:List RC} {cs:List AC} {ls:List (Nat×D)},qZ false l cs ls->ls=[]:=by
 intro l
 induction l with
 | nil=>intro cs ls h1; cases cs<;>cases ls<;>first | rfl | exact h1.elim
 | cons x r ih=>
  intro cs ls h1
  cases cs with
  | nil=>cases x<;>cases ls<;>exact h1.elim
  | cons c cs=>
   cases x with
   | d x=>cases c<;>first | exact ih h1.2 | (cases ls<;>exact h1.elim)
   | own x=>
    cases c with
    | d y=>exact ih (cs:=cs) (ls:=ls) (by cases ls<;>exact h1.2)
    | own k=>
     cases ls with
     | nil=>exact h1.elim
     | cons p ls=>exact absurd h1.1.1 (by simp)
    | _=>cases ls<;>exact h1.elim
theorem KJ {S:Nat->Prop} {own:Nat->Option Nat} {lin:Bool} {lb:Nat->Option fE} (hS:Ext w' w' S (fP cx m')) (hnl:lin=false->∀ j B,own j=some B->fP cx m' B/\B<w'.heap.size) :
 ∀ {l:List RC} {cs:List AC} {ls:List (Nat×D)} {vs:List Value} {j:Nat},qZ lin l cs ls->Ou w' S own j l vs->
  (∀ i p,ls[i]? =some p->m'.own p.1=own (j+i)/\lb p.1=some (.owned p.2))->
  vs.length=cs.length/\(lin=true->ls.length=xB l)/\∀ i,i<cs.length->∃ u,vs[i]? =some u/\fD cx m' w' lb (cs.getD i .undef) u:=by
 intro l
 induction l with
 | nil=>
  intro cs ls vs j h1 h2 h3
  cases cs with
  | nil=>
   cases ls with
   | nil=>
    cases vs with
    | nil=>exact ⟨rfl,λ_=>rfl,λi hi=>by simp at hi⟩
    | cons _ _=>exact h2.elim
   | cons _ _=>exact h1.elim
  | cons _ _=>cases ls<;>exact h1.elim
 | cons x r ih=>
  intro cs ls vs j h1 h2 h3
  cases vs with
  | nil=>cases x<;>exact h2.elim
  | cons v vs=>
   cases cs with
   | nil=>cases x<;>cases ls<;>exact h1.elim
   | cons c cs=>
    cases x with
    | d x=>
     have hc:c= .d x/\qZ lin r cs ls:=by
      cases c<;>first | exact ⟨by rw [h1.1],h1.2⟩ | (cases ls<;>exact h1.elim)
     obtain ⟨rfl,hc⟩:=hc
     obtain ⟨g1,g2,g3⟩:=ih hc h2.2 h3
     refine ⟨by simp [g1],λh=>g2 h,λi hi=> ?_⟩
     cases i with
     | zero=>exact ⟨v,rfl,h2.1.ext hS⟩
     | succ i=>simpa using g3 i (by simpa using hi)
    | own x=>
     obtain ⟨⟨hx,hh,hrow⟩,h2⟩:=h2
     cases c with
     | d y=>
      have h1':(lin=false/\x=y)/\qZ lin r cs ls:=by cases ls<;>exact h1
      obtain ⟨⟨hlin,rfl⟩,h1'⟩:=h1'
      obtain ⟨g1,g2,g3⟩:=ih h1' h2 (λi p hp=>by
       subst hlin
       rw [h1'.nil] at hp; simp at hp)
      refine ⟨by simp [g1],λh=>absurd (hlin.symm.trans h) (by simp),λi hi=> ?_⟩
      cases i with
      | zero=>
       refine ⟨v,rfl,?_⟩
       show RD w' (fP cx m') x v
       cases ho:own j with
       | none=>
        rw [ho] at hh
        obtain ⟨rfl,hn⟩:=hh
        rw [D.eta hx,hn]; exact .sl0 _ _ _ _
       | some B=>
        rw [ho] at hh
        obtain ⟨cap,c,T,rfl,_,_,hle⟩:=hh
        obtain ⟨hS1,hB⟩:=hnl hlin j B ho
        exact yx ((hrow B ho).ext hS rfl) hS1 hB hle
      | succ i=>simpa using g3 i (by simpa using hi)
     | own k=>
      cases ls with
      | nil=>exact h1.elim
      | cons p ls=>
       obtain ⟨⟨hlin,rfl,rfl⟩,h1⟩:=h1
       obtain ⟨g1,g2,g3⟩:=ih h1 h2 (λi p hp=>by
        have:=h3 (i+1) p (by simpa using hp)
        rwa [show j+(i+1)=j+1+i by omega] at this)
       refine ⟨by simp [g1],λh=>by simp [xB,g2 h],λi hi=> ?_⟩
       cases i with
       | zero=>
        refine ⟨v,rfl,?_⟩
        obtain ⟨e1,e2⟩:=h3 0 p rfl
        simp only [List.getD_cons_zero,fD,e2]
        rw [e1]; exact hh
       | succ i=>simpa using g3 i (by simpa using hi)
     | _=>cases ls<;>exact h1.elim
theorem ahU {S:Nat->Prop} {own:Nat->Option Nat} {lin:Bool} {lb:Nat->Option fE} (hS:Ext w' w' S (fP cx m')) (hnl:lin=false->∀ j B,own j=some B->fP cx m' B/\B<w'.heap.size) :
 ∀ {rs:List RV} {xs:List AU} {ls:List (Nat×D)} {vs:List Value} {j:Nat},DT lin rs xs ls->RN w' S own j rs vs->
  (∀ i p,ls[i]? =some p->m'.own p.1=own (j+i)/\lb p.1=some (.owned p.2))->
  vs.length=xs.length/\∀ i,i<xs.length->∃ u,vs[i]? =some u/\RU cx m' w' lb (xs.getD i (.c .undef)) u:=by
 intro rs
 induction rs with
 | nil=>
  intro xs ls vs j h1 h2 h3
  cases xs with
  | nil=>cases vs with
   | nil=>exact ⟨rfl,λi hi=>by simp at hi⟩
   | cons _ _=>exact h2.elim
  | cons _ _=>exact h1.elim
 | cons r rs ih=>
  intro xs ls vs j h1 h2 h3
  cases xs with
  | nil=>exact h1.elim
  | cons x xs=>
   cases vs with
   | nil=>exact h2.elim
   | cons v vs=>
    obtain ⟨l1,l2,rfl,hx,hxs⟩:=h1
    obtain ⟨hv,hvs⟩:=h2
    have hone:∃ (_:lin=true->l1.length=xB r.cells),RU cx m' w' lb x v:=by
     have h3':∀ i p,l1[i]? =some p->m'.own p.1=own (j+i)/\lb p.1=some (.owned p.2):=λi p hp=>h3 i p (by
      rw [List.getElem?_append_left (List.getElem?_eq_some_iff.1 hp).1]; exact hp)
     cases r with
     | c r=>
      cases x with
      | c x=>
       obtain ⟨g1,g2,g3⟩:=KJ hS hnl hx hv h3'
       obtain ⟨u,hu,hr⟩:=g3 0 (by simp)
       obtain rfl:v=u:=by simpa using hu
       exact ⟨g2,hr⟩
      | agg _=>exact hx.elim
     | agg l=>
      cases x with
      | c x=>exact hx.elim
      | agg cs=>
       obtain ⟨us,rfl,hus⟩:=hv
       obtain ⟨g1,g2,g3⟩:=KJ hS hnl hx hus h3'
       exact ⟨g2,us,rfl,by simpa using g1,λi hi=>by simpa using g3 i hi⟩
    obtain ⟨hn,hru⟩:=hone
    obtain ⟨g1,g2⟩:=ih hxs hvs (λi p hp=>by
     have hp':(l1++l2)[l1.length+i]? =some p:=by rw [List.getElem?_append_right (by omega)]; simpa using hp
     have:=h3 _ p hp'
     cases lin with
     | true=>rwa [hn rfl, <- Nat.add_assoc] at this
     | false=>
      exfalso
      have:∀ {rs:List RV} {xs:List AU} {l2:List (Nat×D)},DT false rs xs l2->l2=[]:=by
       intro rs
       induction rs with
       | nil=>intro xs l2 h; cases xs<;>first | exact h | exact h.elim
       | cons r rs ih2=>
        intro xs l2 h
        cases xs with
        | nil=>exact h.elim
        | cons x xs=>
         obtain ⟨a1,a2,rfl,b1,b2⟩:=h
         have e2:=ih2 b2
         have e1:a1=[]:=by
          cases r<;>cases x<;>first | exact qZ.nil b1 | exact b1.elim
         rw [e1,e2]; rfl
      rw [this hxs] at hp; simp at hp)
    refine ⟨by simp [g1],λi hi=> ?_⟩
    cases i with
    | zero=>exact ⟨v,rfl,hru⟩
    | succ i=>simpa using g2 i (by simpa using hi)
def tC:List (Nat×D)->Nat->Option (Nat×D)
 | [],_=>none
 | (k',x)::r,k=>if k'=k then some (0,x) else (tC r k).map λp=>(p.1+1,p.2)
theorem J7 {ls:List (Nat×D)} {k:Nat} (h:tC ls k=none):∀ lb:List (Nat×fE),lk ((ls.reverse.map λp=>(p.1,fE.owned p.2))++lb) k=lk lb k:=by
 induction ls with
 | nil=>intro lb; rfl
 | cons p r ih=>
  intro lb
  obtain ⟨k',x⟩:=p
  simp only [tC] at h
  split at h
  ·cases h
  rename_i hne
  have hr:tC r k=none:=by cases hq:tC r k<;>simp_all
  simp only [List.reverse_cons,List.map_append,List.map_cons,List.map_nil,List.append_assoc,List.singleton_append]
  rw [ih hr,aS (Ne.symm hne)]
theorem wQ {ls:List (Nat×D)}:∀ {k i:Nat} {x:D},(ls.map (·.1)).Nodup->tC ls k=some (i,x)->ls[i]? =some (k,x)/\∀ lb:List (Nat×fE),lk ((ls.reverse.map λp=>(p.1,fE.owned p.2))++lb) k=some (.owned x):=by
 induction ls with
 | nil=>intro k i x _ h; cases h
 | cons p r ih=>
  intro k i x hnd h
  obtain ⟨k',y⟩:=p
  simp only [List.map_cons,List.nodup_cons] at hnd
  simp only [tC] at h
  simp only [List.reverse_cons,List.map_append,List.map_cons,List.map_nil,List.append_assoc,List.singleton_append]
  split at h
  ·rename_i he
   subst he
   obtain ⟨rfl,rfl⟩:=by simpa using h
   refine ⟨rfl,λlb=> ?_⟩
   have hno:tC r k'=none:=by
    cases hq:tC r k' with
    | none=>rfl
    | some q=>
     have:=(ih hnd.2 (show tC r k'=some (q.1,q.2) from hq)).1
     exact absurd (List.mem_map.2 ⟨_,List.mem_of_getElem? this,rfl⟩) hnd.1
   rw [J7 hno,aX]
  simp only [Option.map_eq_some_iff] at h
  obtain ⟨q,hq,he⟩:=h
  obtain ⟨rfl,rfl⟩:=by simpa using he
  obtain ⟨h1,h2⟩:=ih hnd.2 (show tC r k=some (q.1,q.2) from hq)
  exact ⟨by simpa using h1,λlb=>h2 _⟩
theorem adr {ls:List (Nat×D)}:∀ {i:Nat} {p:Nat×D},(ls.map (·.1)).Nodup->ls[i]? =some p->tC ls p.1=some (i,p.2):=by
 induction ls with
 | nil=>intro i p _ h; simp at h
 | cons q r ih=>
  intro i p hnd h
  obtain ⟨k',y⟩:=q
  simp only [List.map_cons,List.nodup_cons] at hnd
  cases i with
  | zero=>
   obtain rfl:(k',y)=p:=by simpa using h
   simp [tC]
  | succ i=>
   have h':r[i]? =some p:=by simpa using h
   have hne:k'≠p.1:=λe=>hnd.1 (by rw [e]; exact List.mem_map.2 ⟨p,List.mem_of_getElem? h',rfl⟩)
   simp [tC,hne,ih hnd.2 h']
theorem PS (st:St) (ls:List (Nat×D)):bK st (ls.map λp=> .lab p.1 (.owned p.2))=⟨st.sl,st.bx,(ls.reverse.map λp=>(p.1,fE.owned p.2))++st.lb⟩:=by
 induction ls generalizing st with
 | nil=>rfl
 | cons p r ih=>simp only [List.map_cons,bK,ih]; simp [Wr.put]
end
end Go.dR
set_option linter.unusedVariables false
set_option linter.unusedSimpArgs false
namespace Go.dR
section
variable {P:Program} {ty:iT} {tb:qj} {cx:Cx} {st:St} {m m1 m':Mp} {a:Act} {w w':World} {o:Oper} {out:Out} {ws:List Wr}
theorem oJ {f:Nat} {fn:Func} (h1:P.funcs[f]? =some fn) (h2:(fn.name == "runtime.NumGoroutine")=false) (h3:fn.body.isNone=false) (args:Array Value) :
 (callFunc f args).run P w= .ok (.enter f args) w:=by
 simp only [callFunc,Sem.run_bind,run_program,Result.andThen_ok,h1,h2,h3]
 rfl
theorem Ia {S:Nat->Prop} {own:Nat->Option Nat} {lin:Bool}:∀ {l:List RC} {cs:List AC} {ls:List (Nat×D)} {vs:List Value} {j:Nat},qZ lin l cs ls->Ou w' S own j l vs->
 (lin=true->ls.length=xB l)/\∀ i p,ls[i]? =some p->p.2.cu=true/\∀ B,own (j+i)=some B->Row w' S B p.2:=by
 intro l
 induction l with
 | nil=>
  intro cs ls vs j h1 h2
  cases cs<;>cases ls<;>first | exact ⟨λ_=>rfl,λi p h=>by simp at h⟩ | exact h1.elim
 | cons x r ih=>
  intro cs ls vs j h1 h2
  cases vs with
  | nil=>cases x<;>exact h2.elim
  | cons v vs=>
   cases cs with
   | nil=>cases x<;>cases ls<;>exact h1.elim
   | cons c cs=>
    cases x with
    | d x=>
     have hc:qZ lin r cs ls:=by
      cases c<;>first | exact h1.2 | (cases ls<;>exact h1.elim)
     obtain ⟨g1,g2⟩:=ih hc h2.2
     exact ⟨λh=>g1 h,g2⟩
    | own x=>
     obtain ⟨⟨hx,hh,hrow⟩,h2⟩:=h2
     cases c with
     | d y=>
      have h1':(lin=false/\x=y)/\qZ lin r cs ls:=by cases ls<;>exact h1
      obtain ⟨⟨hlin,rfl⟩,h1'⟩:=h1'
      refine ⟨λh=>absurd (hlin.symm.trans h) (by simp),λi p hp=> ?_⟩
      subst hlin
      rw [h1'.nil] at hp; simp at hp
     | own k=>
      cases ls with
      | nil=>exact h1.elim
      | cons p ls=>
       obtain ⟨⟨hlin,rfl,rfl⟩,h1⟩:=h1
       obtain ⟨g1,g2⟩:=ih h1 h2
       refine ⟨λh=>by simp [xB,g1 h],λi q hq=> ?_⟩
       cases i with
       | zero=>
        obtain rfl:p=q:=by simpa using hq
        exact ⟨hx,λB hB=>hrow B (by simpa using hB)⟩
       | succ i=>
        have:=g2 i q (by simpa using hq)
        rwa [show j+(i+1)=j+1+i by omega]
     | _=>cases ls<;>exact h1.elim
theorem DT.nil:∀ {rs:List RV} {xs:List AU} {l2:List (Nat×D)},DT false rs xs l2->l2=[]:=by
 intro rs
 induction rs with
 | nil=>intro xs l2 h; cases xs<;>first | exact h | exact h.elim
 | cons r rs ih2=>
  intro xs l2 h
  cases xs with
  | nil=>exact h.elim
  | cons x xs=>
   obtain ⟨a1,a2,rfl,b1,b2⟩:=h
   have e2:=ih2 b2
   have e1:a1=[]:=by
    cases r<;>cases x<;>first | exact qZ.nil b1 | exact b1.elim
   rw [e1,e2]; rfl
theorem ae' {S:Nat->Prop} {own:Nat->Option Nat} {lin:Bool}:∀ {rs:List RV} {xs:List AU} {ls:List (Nat×D)} {vs:List Value} {j:Nat},DT lin rs xs ls->RN w' S own j rs vs->
 ∀ i p,ls[i]? =some p->p.2.cu=true/\∀ B,own (j+i)=some B->Row w' S B p.2:=by
 intro rs
 induction rs with
 | nil=>
  intro xs ls vs j h1 h2 i p hp
  cases xs with
  | nil=>obtain rfl:ls=[]:=h1; simp at hp
  | cons _ _=>exact h1.elim
 | cons r rs ih=>
  intro xs ls vs j h1 h2 i p hp
  cases xs with
  | nil=>exact h1.elim
  | cons x xs=>
   cases vs with
   | nil=>exact h2.elim
   | cons v vs=>
    obtain ⟨l1,l2,rfl,hx,hxs⟩:=h1
    obtain ⟨hv,hvs⟩:=h2
    have hone:(lin=true->l1.length=xB r.cells)/\∀ i p,l1[i]? =some p->p.2.cu=true/\∀ B,own (j+i)=some B->Row w' S B p.2:=by
     cases r with
     | c r=>cases x with
      | c x=>exact Ia hx hv
      | agg _=>exact hx.elim
     | agg l=>cases x with
      | c x=>exact hx.elim
      | agg cs=>
       obtain ⟨us,rfl,hus⟩:=hv
       exact Ia hx hus
    by_cases hi:i<l1.length
    ·rw [List.getElem?_append_left hi] at hp
     exact hone.2 i p hp
    rw [List.getElem?_append_right (by omega)] at hp
    cases lin with
    | false=>rw [hxs.nil] at hp; simp at hp
    | true=>
     have:=ih hxs hvs _ p hp
     rwa [<- hone.1 rfl,show j+l1.length+(i - l1.length)=j+i by omega] at this
theorem Rel.left (R:Rel cx (bK st ws) m1 a w) (hnone:∀ k,lk st.lb k=none->lk (bK st ws).lb k=none) {sp:fO} {args:List Arg} {v:Value} {S0:Nat->Prop} (hL:Left w w' S0 sp args v)
 (hS0:sp.alias=true->∀ B,S0 B->fP cx m1 B) {lin:Bool} {xs:List AU} {ls:List (Nat×D)} (hx:DT lin (sp.res args) xs ls) (hls:∀ p∈ls,lk st.lb p.1=none) (hnd:(ls.map (·.1)).Nodup) :
 ∃ m',Rel cx (bK (bK st ws) (ls.map λp=> .lab p.1 (.owned p.2))) m' a w'/\RA cx m' w' (lk (bK (bK st ws) (ls.map λp=> .lab p.1 (.owned p.2))).lb) (Dx xs) v:=by
 obtain ⟨own,hown,hinj,hres⟩:=hL.res
 let N:Nat->Option D:=λk=>(tC ls k).map (·.2)
 let ow:Nat->Option Nat:=λk=>match tC ls k with | some (i,_)=>own i | none=>none
 have QG:∀ B,(((sp.alias=true/\S0 B)\/w.heap.size<=B)/\∀ j,own j≠some B)->fP cx m1 B:=by
  rintro B ⟨⟨h1,h2⟩ | h,_⟩
  ·exact hS0 h1 B h2
  exact ⟨.inr (Nat.le_trans R.size h),λk hk=>by have:=R.dK k B hk; omega,λb hb=>by have:=R.gu b B hb; omega,λk j hk=>by have:=R.bn.blk k j B hk; omega⟩
 have how:∀ k B,ow k=some B->∃ i x,tC ls k=some (i,x)/\own i=some B:=by
  intro k B h
  simp only [ow] at h
  split at h
  ·rename_i i x hi; exact ⟨i,x,hi,h⟩
  cases h
 obtain ⟨us,hus,hrs⟩:∃ us,RN w' (λB=>((sp.alias=true/\S0 B)\/w.heap.size<=B)/\∀ j,own j≠some B) own 0 (sp.res args) us/\
  (∀ {m':Mp} {lb:Nat->Option fE},us.length=xs.length->(∀ i,i<xs.length->∃ u,us[i]? =some u/\RU cx m' w' lb (xs.getD i (.c .undef)) u)->RA cx m' w' lb (Dx xs) v):=by
  unfold RQ at hres
  split at hres
  ·rename_i r hr
   rw [hr] at hx
   refine ⟨[v],by rw [hr]; exact ⟨hres,trivial⟩,λh1 h2=> ?_⟩
   match xs,h1,hx with
   | [x],_,_=>
    obtain ⟨u,hu,hr⟩:=h2 0 (by simp)
    obtain rfl:v=u:=by simpa using hu
    exact hr
  rename_i hne
  obtain ⟨vs,rfl,hvs⟩:=hres
  refine ⟨vs.toList,hvs,λh1 h2=> ?_⟩
  have hx1:∀ x,xs≠[x]:=by
   rintro x rfl
   generalize sp.res args=rs at*
   match rs,hx with
   | [],h=>exact h
   | [r],_=>exact hne r rfl
   | r::r2::rs,h=>obtain ⟨l1,l2,_,_,h⟩:=h; exact h
  have:Dx xs= .Jy xs:=by
   unfold Dx
   split
   ·exact absurd rfl (hx1 _)
   rfl
  rw [this]
  exact ⟨vs,rfl,by simpa using h1,λi hi=>by simpa using h2 i hi⟩
 have hrows:=ae' hx hus
 rw [PS]
 have R2:=R.Xx (w':=w') N ow (lb:=(ls.reverse.map λp=>(p.1,fE.owned p.2))++(bK st ws).lb) hL.size hL.env hL.old (λk x hk=>by
  simp only [N,Option.map_eq_some_iff] at hk
  obtain ⟨⟨i,y⟩,hi,rfl⟩:=hk
  obtain ⟨h1,h2⟩:=wQ hnd hi
  obtain ⟨r1,r2⟩:=hrows i _ h1
  refine ⟨hnone k (hls _ (List.mem_of_getElem? h1)),h2 _,r1,λB hB=> ?_⟩
  obtain ⟨i',x',hi',ho⟩:=how k B hB
  rw [hi] at hi'
  obtain ⟨rfl,rfl⟩:=by simpa using hi'
  refine ⟨(hown i B ho).1,(hown i B ho).2,Row.ext ⟨Nat.le_refl _,λ_ _ _=>rfl,λB' _ h=>⟨QG B' h,λk' hk'=> ?_⟩⟩ rfl (r2 B (by simpa using ho))⟩
  obtain ⟨i2,x2,_,ho2⟩:=how k' B' hk'
  exact h.2 i2 ho2)
  (λk hk=>by
   have hi:tC ls k=none:=by
    cases h:tC ls k with
    | none=>rfl
    | some q=>simp [N,h] at hk
   exact ⟨J7 hi _,by simp only [ow,hi]⟩)
  (λk k' B h1 h2=>by
   obtain ⟨i,x,hi,ho⟩:=how k B h1
   obtain ⟨i',x',hi',ho'⟩:=how k' B h2
   obtain rfl:=hinj _ _ _ ho ho'
   have e1:=(wQ hnd hi).1
   have e2:=(wQ hnd hi').1
   rw [e1] at e2
   simpa using (by simpa using e2:k=k'/\x=x').1)
 refine ⟨_,R2,?_⟩
 have hS:Ext w' w' (λB=>((sp.alias=true/\S0 B)\/w.heap.size<=B)/\∀ j,own j≠some B) (fP cx ⟨λk=>(match N k with | some _=>ow k | none=>m1.own k),m1.box,m1.inn,m1.mp⟩):=by
  refine ⟨Nat.le_refl _,λ_ _ _=>rfl,λB _ h=>⟨(QG B h).1,λk hk=> ?_,(QG B h).2.2⟩⟩
  simp only at hk
  split at hk
  ·obtain ⟨i2,x2,_,ho2⟩:=how k B hk
   exact h.2 i2 ho2
  exact (QG B h).2.1 k hk
 obtain ⟨g1,g2⟩:=ahU (cx:=cx) (m':=⟨λk=>(match N k with | some _=>ow k | none=>m1.own k),m1.box,m1.inn,m1.mp⟩) (lb:=lk ((ls.reverse.map λp=>(p.1,fE.owned p.2))++(bK st ws).lb)) hS (λhlin j B hB=>by
  subst hlin
  have hnil:=hx.nil
  have hb:=hown j B hB
  refine ⟨⟨.inr (Nat.le_trans R.size hb.1),λk hk=> ?_,λb hb'=>by have:=R.gu b B hb'; omega,λk j hk=>by have:=R.bn.blk k j B hk; omega⟩,hb.2⟩
  simp only at hk
  split at hk
  ·obtain ⟨i2,x2,hi2,_⟩:=how k B hk
   rw [hnil] at hi2; cases hi2
  ·have:=R.dK k B hk; omega) hx hus (λi p hp=>by
  have hix:=adr hnd hp
  have hN:N p.1=some p.2:=by simp [N,hix]
  refine ⟨?_,(wQ hnd hix).2 _⟩
  simp only [hN,ow,hix,Nat.zero_add])
 exact hrs g1 g2
theorem JK {S:Nat->Prop}:∀ {l1 l2:List Arg} {v1 v2:List Value},jH w S l1 v1->jH w S l2 v2->jH w S (l1++l2) (v1++v2)
 | [],_,[],_,_,h=>h
 | [],_,_::_,_,h,_=>h.elim
 | _::_,_,[],_,h,_=>h.elim
 | _::_,_,_::_,_,h1,h2=>⟨h1.1,JK h1.2 h2⟩
theorem JI {S:Nat->Prop}:∀ {ds:List (List D)} {vs:List Value},vs.length=ds.length->(∀ i,i<ds.length->∃ u,vs[i]? =some u/\Ptr w S (ds.getD i []) 0 u)->jH w S (ds.map .ptr) vs
 | [],[],_,_=>trivial
 | [],_::_,h,_=>by simp at h
 | _::_,[],h,_=>by simp at h
 | d::ds,v::vs,h,hv=>by
  refine ⟨?_,JI (by simpa using h) (λi hi=>by simpa using hv (i+1) (by simpa using hi))⟩
  obtain ⟨u,hu,hr⟩:=hv 0 (by simp)
  obtain rfl:v=u:=by simpa using hu
  exact hr
theorem Rel.args (R:Rel cx st m a w):∀ {l:List Operand} {xs:List Arg},zq st (valsOf st l) xs->jH w (Known cx w) xs (l.map a.eval)
 | [],[],_=>trivial
 | [],_::_,h=>h.elim
 | _::_,[],h=>h.elim
 | x::l,y::xs,h=>⟨R.arg h.1 (R.val x),Rel.args R h.2⟩
theorem xE (st:St):∀ (l:List AC) (f:List Wr->Rd Out),(∃ b off n s,AC.xg b off n s∈l)->(bJ l f).run st=⟨False,default,[]⟩
 | [],_,h=>by obtain ⟨_,_,_,_,h⟩:=h; cases h
 | x::r,f,h=>by
  obtain ⟨b,off,n,s,h⟩:=h
  rcases List.mem_cons.1 h with rfl | h
  ·rfl
  have ih:=λf=>xE st r f ⟨b,off,n,s,h⟩
  cases x<;>first | rfl | exact ih _ | skip
  simp only [bJ,Rd.run]
  split
  ·exact ih _
  ·exact ih _
  rfl
theorem Rel.VI (R:Rel cx st m a w) {v:AV} {x:Arg} {u:Value} (h:Yu st v x) (hnb:∀ b off n s,AC.xg b off n s∉bY [v]) (hs:∀ k∈jm (bY [v]),∃ y,lk st.lb k=some (.shared y)) (hc:∀ g ds,x= .clo g ds->ds=[]) (hv:RA cx m w (lk st.lb) v u):Ov w (fP cx m) x u:=by
 rcases h with ⟨g,caps,ds,rfl,rfl,h⟩ | ⟨y,d,rfl,rfl,h⟩ | ⟨l,ds,rfl,rfl,h⟩ | ⟨b,off,n,s,cs,ds,rfl,-⟩
 rotate_right
 ·exact absurd (by simp [bY,AU.cells]) (hnb b off n s)
 ·obtain rfl:=hc g ds rfl
  obtain ⟨vs,rfl,hsz,_⟩:=hv
  have:caps=[]:=by
   cases caps with
   | nil=>rfl
   | cons _ _=>exact h.elim
  subst this
  exact ⟨vs,rfl,hsz,λi hi=>by simp at hi⟩
 ·exact R.tZ h (by simpa [bY,AU.cells] using hs) hv
 obtain ⟨vs,rfl,hsz,hc⟩:=hv
 refine ⟨vs,rfl,by rw [hsz,h.1],λi hi=> ?_⟩
 rw [h.1] at hi
 obtain ⟨u,hu,hr⟩:=hc i hi
 exact ⟨u,hu,R.tZ (h.2 i hi) (λk hk=>hs k (by simpa [bY,AU.cells] using Gz hi k hk)) hr⟩
theorem zq.up {st':St} (h:∀ {x:AC} {d:D},DOf (lk st.lb) x d->DOf (lk st'.lb) x d) (hb:st'.bx=st.bx):∀ {l:List AV} {xs:List Arg},zq st l xs->zq st' l xs:=by
 have hds:∀ {l ds},VL (lk st.lb) l ds->VL (lk st'.lb) l ds:=λhd=>⟨hd.1,λj hj=>h (hd.2 j hj)⟩
 have hcap:∀ {c d},IJ st c d->IJ st' c d:=by
  intro c d hc
  unfold IJ at*
  split at hc
  ·obtain ⟨cs,h1,h2⟩:=hc
   exact ⟨cs,by rw [hb]; exact h1,hds h2⟩
  ·exact hc
  exact hc.elim
 have awF:∀ {c d},Dl st c d->Dl st' c d:=by
  intro c
  induction c with
  | nil=>intro d hd; cases d<;>exact hd
  | cons x r ih=>intro d hd; cases d with
   | nil=>exact hd
   | cons y d=>exact ⟨hcap hd.1,ih hd.2⟩
 intro l
 induction l with
 | nil=>intro xs hx; cases xs<;>exact hx
 | cons v r ih=>
  intro xs hx
  cases xs with
  | nil=>exact hx
  | cons x xs=>
   refine ⟨?_,ih hx.2⟩
   rcases hx.1 with ⟨g,caps,ds,e1,e2,h⟩ | ⟨y,d,e1,e2,h3⟩ | ⟨l,ds,e1,e2,h⟩ | ⟨b,off,n,s,cs,ds,e1,q1,q2,q3,q4,e2⟩
   ·exact .inl ⟨g,caps,ds,e1,e2,awF h⟩
   ·exact .inr (.inl ⟨y,d,e1,e2,h h3⟩)
   ·exact .inr (.inr (.inl ⟨l,ds,e1,e2,hds h⟩))
   exact .inr (.inr (.inr ⟨b,off,n,s,cs,ds,e1,by rw [hb]; exact q1,q2,q3,hds q4,e2⟩))
theorem Rel.DN (R:Rel cx st m a w):∀ {l:List Operand} {xs:List Arg},zq st (valsOf st l) xs->(∀ b off n s,AC.xg b off n s∉bY (valsOf st l))->(∀ k∈jm (bY (valsOf st l)),∃ y,lk st.lb k=some (.shared y))->jL xs=true->jH w (fP cx m) xs (l.map a.eval)
 | [],[],_,_,_,_=>trivial
 | [],_::_,h,_,_,_=>h.elim
 | _::_,[],h,_,_,_=>h.elim
 | x::l,y::xs,h,hnb,hs,hn=>by
  have aDB:∀ b off n s,AC.xg b off n s∉bY [valOf st x]:=λb off n s hk=>hnb b off n s (by
   cases hv:valOf st x with
   | u u=>simp only [valsOf,hv,bY,List.append_nil,List.mem_append] at hk ⊢; exact .inl hk
   | Jy _=>simp [hv,bY] at hk
   | cnd _ _=>simp [hv,bY] at hk)
  have aDA:∀ b off n s,AC.xg b off n s∉bY (valsOf st l):=λb off n s hk=>hnb b off n s (by
   cases hv:valOf st x with
   | u u=>simp only [valsOf,hv,bY,List.mem_append] at hk ⊢; exact .inr hk
   | Jy _=>simpa only [valsOf,hv,bY] using hk
   | cnd _ _=>simpa only [valsOf,hv,bY] using hk)
  have hs1:∀ k∈jm (bY [valOf st x]),∃ y,lk st.lb k=some (.shared y):=λk hk=>hs k (by
   cases hv:valOf st x with
   | u u=>simp only [valsOf,hv,bY,List.append_nil,jm,List.filterMap_append,List.mem_append] at hk ⊢; exact .inl hk
   | Jy _=>simp [hv,bY,jm] at hk
   | cnd _ _=>simp [hv,bY,jm] at hk)
  have hs2:∀ k∈jm (bY (valsOf st l)),∃ y,lk st.lb k=some (.shared y):=λk hk=>hs k (by
   cases hv:valOf st x with
   | u u=>simp only [valsOf,hv,bY,jm,List.filterMap_append,List.mem_append] at hk ⊢; exact .inr hk
   | Jy _=>simpa only [valsOf,hv,bY] using hk
   | cnd _ _=>simpa only [valsOf,hv,bY] using hk)
  have hn2:jL xs=true/\∀ g ds,y= .clo g ds->ds=[]:=by
   cases y with
   | clo g ds=>
    simp only [jL,Bool.and_eq_true,List.isEmpty_iff] at hn
    refine ⟨hn.2,λg' ds' e=> ?_⟩
    obtain ⟨rfl,rfl⟩:=by simpa using e
    exact hn.1
   | ptr l=>simp [jL] at hn
   | c x=>exact ⟨hn,λ_ _ e=>by cases e⟩
   | agg l=>exact ⟨hn,λ_ _ e=>by cases e⟩
  exact ⟨R.VI h.1 aDB hs1 hn2.2 (R.val x),Rel.DN R h.2 aDA hs2 hn2.1⟩
theorem Ko (htb:fM P tb) (R:Rel cx st m a w) {lin:Bool} {nm g:Nat} {x:Operand} {args:Array Operand} {ts:Array Nat} {caps:List Cap}
 (ho:o.op= .call { callee:= .value x,args:=args,argTypes:=ts }) (hxv:fD cx m w (lk st.lb) (.clo g caps) (a.eval x)) (aY:((qI tb lin nm g caps (valsOf st args.toList)).run st).nO) :
 Good P cx st a w o ((qI tb lin nm g caps (valsOf st args.toList)).run st):=by
 obtain ⟨vs,hv,hvs,hvc⟩:=hxv
 revert aY
 unfold qI
 split
 ·exact aO
 rename_i sp hsp
 obtain ⟨⟨fn,f1,f2,f3⟩,hval⟩:=htb g sp hsp
 have jO:(execOp a.eval o).run P w= .ok (.enter g ((args.map a.eval)++vs)) w:=by
  simp only [execOp,ho,resolve,hv,Deferred.ofValue,Sem.run_bind,Sem.run_pure,Result.andThen_ok,invoke,Array.empty_append]
  exact oJ f1 f2 f3 _
 have key:∀ (as:List Arg) (ws:List Wr) (m1:Mp) (S0:Nat->Prop),Rel cx (bK st ws) m1 a w->(∀ k,lk st.lb k=none->lk (bK st ws).lb k=none)->
  (∀ B,S0 B->B<w.heap.size)->(sp.alias=true->jL as=true->∀ B,S0 B->fP cx m1 B)->(jL as=true\/sp.alias=false->jH w S0 as ((args.map a.eval)++vs).toList)->
  ((iM sp lin nm caps as ws).run st).nO->Good P cx st a w o ((iM sp lin nm caps as ws).run st):=by
  intro as ws m1 S0 R1 hnone h1 h2 h3
  unfold iM
  rcases TD st lin nm (sp.res as) 0 (λxs ls=>if lin=true\/ws.length=0 then
   .ret ⟨sp.pre as/\(ls.map (·.1)).Nodup/\(sp.alias=true->jL as=true),Dx xs,ws++ls.map λp=> .lab p.1 (.owned p.2)⟩
   else bad) with ⟨xs,ls,k1,k2,k3⟩ | k1
  ·rw [k1]
   split
   ·intro aY
    simp only [Rd.run] at aY ⊢
    obtain ⟨hp,hnd,hal⟩:=aY
    intro next Q hnext
    unfold Oper.wp
    rw [jO,Oper.upon_enter]
    refine (hval S0 w as _ (cx.glob.old R1.old) h1 (h3 (by
     cases ha:sp.alias with
     | true=>exact .inl (hal ha)
     | false=>exact .inr rfl)) hp).mono ?_
    rintro e w2 ⟨v,rfl,hL⟩
    obtain ⟨m2,R2,hr⟩:=R1.left hnone hL (λha=>h2 ha (hal ha)) k3 k2 hnd
    rw [xJ] at hnext
    exact hnext v m2 w2 R2 hr
   exact aO
  rw [k1]; exact λh=>h.elim
 rcases TB st (valsOf st args.toList) (λas=>lM caps λds=>
  if sp.alias then bJ (bY (valsOf st args.toList)) λws=>iM sp lin nm caps (as++ds.map .ptr) ws
  else iM sp lin nm caps (as++ds.map .ptr) []) with ⟨as,has,k1⟩ | k1
 ·rw [k1]
  rcases FU st caps (λds=>if sp.alias then bJ (bY (valsOf st args.toList)) λws=>iM sp lin nm caps (as++ds.map .ptr) ws
   else iM sp lin nm caps (as++ds.map .ptr) []) with ⟨ds,hds,k2⟩ | k2
  ·rw [k2]
   obtain ⟨c1,c2⟩:=R.caps (vs:=vs.toList) hds (by simpa using hvs) (λi hi=>by simpa using hvc i hi)
   have adK:jH w (Known cx w) (as++ds.map .ptr) ((args.map a.eval)++vs).toList:=by
    rw [Array.toList_append,Array.toList_map]
    exact JK (R.args has) (JI (by rw [Array.length_toList,hvs,c1]) c2)
   split
   ·rename_i hal
    by_cases hbs:∃ b off n s,AC.xg b off n s∈bY (valsOf st args.toList)
    ·rw [xE st _ _ hbs]; exact λh=>h.elim
    rcases qP R (bY (valsOf st args.toList)) (λws=>iM sp lin nm caps (as++ds.map .ptr) ws) with ⟨ws,m1,k3,R1,hup,hsh⟩ | k3
    ·rw [k3]
     have alZ:jL (as++ds.map .ptr)=true->ds=[]/\jL as=true:=by
      intro h
      cases ds with
      | nil=>exact ⟨rfl,by simpa using h⟩
      | cons d ds=>
       exfalso
       clear has k1 adK key k3 k2
       induction as with
       | nil=>simp [jL] at h
       | cons y as ih=>
        cases y with
        | clo g ds'=>simp only [List.cons_append,jL,Bool.and_eq_true] at h; exact ih h.2
        | ptr l=>simp [jL] at h
        | c x=>exact ih h
        | agg l=>exact ih h
     by_cases hn:jL (as++ds.map .ptr)=true
     ·obtain ⟨rfl,hn'⟩:=alZ hn
      refine key _ ws m1 (λB=>B<w.heap.size/\fP cx m1 B) R1 (λk hk=>hup.none hk) (λB h=>h.1) (λ_ _ B h=>h.2) (λ_=> ?_)
      have aDn:vs= #[]:=by
       have:vs.size=0:=by rw [hvs, <- c1]; rfl
       exact Array.eq_empty_of_size_eq_zero this
      subst aDn
      simp only [List.map_nil,List.append_nil,Array.append_empty,Array.toList_map]
      have hA:=R1.DN (l:=args.toList) (xs:=as) (by rw [sW]; exact has.up (λh=>hup.dof h) hup.1) (by rw [sW]; exact λb off n s h=>hbs ⟨b,off,n,s,h⟩) (by rw [sW]; exact hsh) hn'
      have hmono:∀ {xs:List Arg} {us:List Value},jH w (fP cx m1) xs us->jH w (λB=>B<w.heap.size/\fP cx m1 B) xs us:=by
       have he:Ext w w (fP cx m1) (λB=>B<w.heap.size/\fP cx m1 B):=⟨Nat.le_refl _,λ_ _ _=>rfl,λB h1 h2=>⟨h1,h2⟩⟩
       intro xs
       induction xs with
       | nil=>intro us h; cases us<;>exact h
       | cons x xs ih=>
        intro us h
        cases us with
        | nil=>exact h
        | cons u us=>
         refine ⟨?_,ih h.2⟩
         cases x with
         | c x=>exact RD.ext he h.1
         | agg l=>
          obtain ⟨vs,e,hsz,hc⟩:=h.1
          exact ⟨vs,e,hsz,λi hi=>by obtain ⟨u,hu,hr⟩:=hc i hi; exact ⟨u,hu,hr.ext he⟩⟩
         | ptr l=>exact Ptr.ext he h.1
         | clo f cs=>
          obtain ⟨vs,e,hsz,hc⟩:=h.1
          exact ⟨vs,e,hsz,λi hi=>by obtain ⟨u,hu,hr⟩:=hc i hi; exact ⟨u,hu,hr.ext he⟩⟩
      exact hmono hA
     refine key _ ws m1 (λ_=>False) R1 (λk hk=>hup.none hk) (λB h=>h.elim) (λ_ h=>absurd h hn) (λh=> ?_)
     rcases h with h | h
     ·exact absurd h hn
     rw [hal] at h; cases h
    rw [k3]; exact λh=>h.elim
   rename_i hal
   exact key _ [] m (Known cx w) R (λ_ h=>h) (λB h=>h.1) (λh=>absurd h hal) (λ_=>adK)
  rw [k2]; exact λh=>h.elim
 rw [k1]; exact λh=>h.elim
end
end Go.dR
set_option linter.unusedVariables false
set_option linter.unusedSimpArgs false
namespace Go.dR
section
variable {P:Program} {ty:iT} {tb:qj} {cx:Cx} {st:St} {m m1 m':Mp} {a:Act} {w w':World} {o:Oper} {out:Out} {ws:List Wr}
theorem adS (hty:iP P ty) (R:Rel cx st m a w) {t:Nat} {x:Operand} (ho:∀ v,(Builtin.len_ #[t] o.type #[a.eval x]).run P w= .ok v w->(execOp a.eval o).run P w= .ok (.value v) w)
 (aY:((Hq ty t (valOf st x)).run st).nO):Good P cx st a w o ((Hq ty t (valOf st x)).run st):=by
 have hx:=R.val x
 generalize valOf st x=av at*
 revert aY
 unfold Hq
 split
 ·rename_i sz by' ag ze e en b off n s hi
  intro _
  obtain ⟨B,cap,_,_,hv⟩:=hx
  refine Good.val (m':=m) (ho _ ?_) R (RD.int _ _)
  simp [Builtin.len_,hv,run_underlying (hty t _ hi).und,goInt]
 ·rename_i sz by' ag ze e en k hi
  simp only [Rd.run]
  have key:∀ (p:Prop) (n:Nat),(∃ ao cap,a.eval x= .slice ao n cap)->Good P cx st a w o ⟨p,.c (.d (.int .i64 n)),[]⟩:=λp n ⟨ao,cap,hv⟩=>by
   refine Good.val (m':=m) (ho _ ?_) R (RD.int _ _)
   simp [Builtin.len_,hv,run_underlying (hty t _ hi).und,goInt]
  split
  ·rename_i z hz
   intro aY
   obtain ⟨ao,cap,hv,_⟩:=R.elems (y:= .own k) (d:=z) (Or.inl hz) hx aY
   exact key _ _ ⟨ao,cap,hv⟩
  ·rename_i z hz
   intro aY
   obtain ⟨ao,cap,hv,_⟩:=R.elems (y:= .own k) (d:=z) (Or.inr hz) hx aY
   exact key _ _ ⟨ao,cap,hv⟩
  ·rename_i z hz
   intro aY
   simp only [RA,RU,fD,hz] at hx
   refine key _ _ ?_
   cases hB:m.own k with
   | none=>rw [hB] at hx; exact ⟨none,0,by rw [hx.1,hx.2]⟩
   | some B=>rw [hB] at hx; obtain ⟨cap,c,T,hv,_⟩:=hx; exact ⟨_,cap,hv⟩
  exact aO
 ·rename_i sz by' ag ze e en y _ _ hi
  rcases wH st y (λd=> .ret ⟨d.cu=true,.c (.d (.int .i64 d.len)),[]⟩) with ⟨d,hd,k⟩ | k
  ·rw [k]
   intro aY
   simp only [Rd.run] at aY ⊢
   obtain ⟨ao,cap,hv,_⟩:=R.elems hd hx aY
   refine Good.val (m':=m) (ho _ ?_) R (RD.int _ _)
   simp [Builtin.len_,hv,run_underlying (hty t _ hi).und,goInt]
  rw [k]; exact λh=>h.elim
 ·rename_i sz by' ag ze en s hi
  intro _
  have hs:a.eval x= .string s:=by
   generalize a.eval x=v at hx
   cases hx; rfl
  refine Good.val (m':=m) (ho _ ?_) R (RD.int _ _)
  simp [Builtin.len_,hs,run_underlying (hty t _ hi).und,goInt]
 exact aO
theorem DI (R:Rel cx st m a w) {mx:Bool} {args:Array Operand}
 (ho:∀ v,((if mx then Builtin.max_ else Builtin.min_) #[] 0 (args.map a.eval)).run P w= .ok v w->(execOp a.eval o).run P w= .ok (.value v) w)
 (aY:((kZ mx (valsOf st args.toList)).run st).nO):Good P cx st a w o ((kZ mx (valsOf st args.toList)).run st):=by
 obtain ⟨args⟩:=args
 simp only at*
 revert aY
 match args with
 | [x,y]=>
  simp only [valsOf]
  have hx:=R.val x
  have hy:=R.val y
  generalize valOf st x=ax at*
  generalize valOf st y=ay at*
  unfold kZ
  split
  ·rename_i j p k q heq
   obtain ⟨rfl,rfl⟩:=by simpa using heq
   intro aY
   simp only [Rd.run] at aY ⊢
   have hx':=jl hx
   have hy':=jl hy
   refine Good.val (m':=m) (ho _ ?_) R (RD.int _ _)
   simp only [List.map_toArray,List.map_cons,List.map_nil,hx',hy']
   cases mx with
   | true=>simp only [if_true]; rw [run_max_int2]
   | false=>simp only [Bool.false_eq_true,if_false]; rw [run_min_int2]
  ·exact aO
 | []=>exact aO
 | [x]=>simp only [valsOf]; unfold kZ; split<;>first | (rename_i heq; simp at heq; done) | exact aO
 | x::y::z::r=>simp only [valsOf]; unfold kZ; split<;>first | (rename_i heq; simp at heq; done) | exact aO
theorem yR (R:Rel cx st m a w):∀ {l:List Operand} {cs:List Cap},ug (valsOf st l)=some cs->
 l.length=cs.length/\∀ i,i<cs.length->∃ u,(l.map a.eval)[i]? =some u/\Dj cx m w (cs.getD i (.ref 0 0)) u
 | [],cs,h=>by simp [valsOf,ug] at h; subst h; simp
 | x::l,cs,h=>by
  have hx:=R.val x
  simp only [valsOf] at h
  generalize valOf st x=av at*
  unfold ug at h
  split at h
  ·rename_i heq; cases heq
  ·rename_i b off r heq
   obtain ⟨rfl,rfl⟩:=by simpa using heq
   simp only [Option.map_eq_some_iff] at h
   obtain ⟨cs',h1,rfl⟩:=h
   obtain ⟨g1,g2⟩:=yR R h1
   refine ⟨by simp [g1],λi hi=> ?_⟩
   cases i with
   | zero=>exact ⟨_,rfl,hx⟩
   | succ i=>simpa using g2 i (by simpa using hi)
  ·rename_i b off r heq
   obtain ⟨rfl,rfl⟩:=by simpa using heq
   simp only [Option.map_eq_some_iff] at h
   obtain ⟨cs',h1,rfl⟩:=h
   obtain ⟨g1,g2⟩:=yR R h1
   refine ⟨by simp [g1],λi hi=> ?_⟩
   cases i with
   | zero=>exact ⟨_,rfl,hx⟩
   | succ i=>simpa using g2 i (by simpa using hi)
  cases h
theorem afd {args:Array Operand} {x:Operand} (h:args.toList=[x]):args= #[x]:=by
 obtain ⟨l⟩:=args; simp at h; subst h; rfl
theorem afc {args:Array Operand} {x y:Operand} (h:args.toList=[x,y]):args= #[x,y]:=by
 obtain ⟨l⟩:=args; simp at h; subst h; rfl
theorem afA {args:Array Nat} {x:Nat} (h:args.toList=[x]):args= #[x]:=by
 obtain ⟨l⟩:=args; simp at h; subst h; rfl
theorem afz {args:Array Nat} {x y:Nat} (h:args.toList=[x,y]):args= #[x,y]:=by
 obtain ⟨l⟩:=args; simp at h; subst h; rfl
theorem Ky (hty:iP P ty) (htb:fM P tb) (R:Rel cx st m a w) {lin:Bool} (aY:((fJ ty tb lin o).run st).nO):Good P cx st a w o ((fJ ty tb lin o).run st):=by
 revert aY
 unfold fJ
 split
 case h_1 x ho=>simp only [dD]; exact λ_=>J9 R (.inl ho)
 case h_2 x ho=>simp only [dD]; exact λ_=>J9 R (.inr ho)
 case h_3 c x y ho=>simp only [dD]; exact λh=>ZP R ho h
 case h_4 t ho=>
  split
  ·rename_i i _ hi; exact λh=>U0 hty R ho hi h
  exact aO
 case h_5 t x ho=>
  rw [dD]
  have hx:=R.val x
  split
  ·rename_i v hv
   rw [hv] at hx
   split
   ·exact λh=>adT R ho hx h
   exact aO
  exact aO
 case h_6 t ps ho=>rw [pG]; exact λh=>UZ hty R ho h
 case h_7 t n ps ho=>rw [pG]; exact λh=>Eb hty R ho h
 case h_8 t x ho=>rw [dD]; exact λh=>UU hty R ho h
 case h_9 t x y ho=>
  simp only [dD]
  split
  ·exact λh=>QJ hty R ho h
  exact aO
 case h_10 x ho=>
  rw [dD]
  have hx:=R.val x
  split
  ·rename_i b off hv
   intro _
   rw [hv] at hx ⊢
   obtain ⟨B,_,hp⟩:=id hx
   exact qX R ho hx hp
  ·rename_i l off hv
   intro _
   rw [hv] at hx ⊢
   obtain ⟨B,q,hp,_⟩:=id hx
   exact qX R ho hx hp
  ·rename_i b l hv
   intro hb
   obtain rfl:b=true:=hb
   rw [hv] at hx
   obtain ⟨B,q,hp,_⟩:=FX.1 (show RD w (fP cx m) (.pt true l) _ from hx)
   exact qX (v:= .c (.d (.pt true l))) R ho hx hp
  exact aO
 case h_11 op t x y yt ho=>simp only [dD]; exact λh=>adU hty R ho h
 case h_12 op t x ho=>
  rw [dD]
  have hx:=R.val x
  split
  ·rename_i k n hv
   intro _
   rw [hv] at hx
   have hx':=jl hx
   refine dN R (u:= .int k (k.wrap (0 - n))) ?_ (RD.int _ _)
   simp [execOp,ho,hx',Op.unary,Op.intArith]
  ·rename_i b hv
   intro _
   rw [hv] at hx
   have hx':=qB hx
   refine dN R (u:= .bool !b) ?_ (RD.bool _)
   simp [execOp,ho,hx',Op.unary]
  exact aO
 case h_13 s d x ho=>
  split
  ·rename_i hi; rw [dD]; exact λh=>G5 hty R ho hi h
  ·rename_i i _ hi; rw [dD]; exact λh=>NC hty R ho (by rw [hi]; rfl) h
  exact aO
 case h_14 f first caps ho=>
  split
  ·rename_i hf
   rw [pG]
   split
   ·rename_i cs hcs
    intro _
    obtain ⟨g1,g2⟩:=yR R hcs
    refine dN R (u:= .func (.func f) #[] (caps.map a.eval)) ?_ ⟨_,rfl,by simpa using g1,λi hi=>by simpa using g2 i hi⟩
    have:first= #[]:=by obtain ⟨l⟩:=first; simp at hf; subst hf; rfl
    simp [execOp,ho,Instr.makeFunc,this]
   exact aO
  exact aO
 case h_15 t x y ho=>simp only [dD]; exact λh=>GY hty R ho h
 case h_16 t x lo hi mx ho=>
  rw [dD]
  split
  ·exact λh=>tH hty R ho h
  ·rw [dD]; exact λh=>tH hty R ho h
  ·rw [dD]; exact λh=>tH hty R ho h
  simp only [dD]; exact λh=>tH hty R ho h
 case h_17 s x f ho=>rw [dD]; exact λh=>G6 hty R ho h
 case h_18 s x f ho=>rw [dD]; exact λh=>UY hty R ho h
 case h_19 t x y ho=>simp only [dD]; exact λh=>GZ hty R ho h
 case h_20 t x y ho=>simp only [dD]; exact λh=>UW hty R ho h
 case h_21 x i ho=>
  rw [dD]
  have hx:=R.val x
  split
  ·rename_i l hv
   rw [hv] at hx
   intro hi
   exact Nz R ho hx hi
  exact aO
 case h_22 args ts ho=>
  split
  ·rename_i x t h1 h2
   rw [dD]
   refine λh=>adS hty R (λv hv=> ?_) h
   simp [execOp,ho,resolve,invoke,builtin,afd h1,afA h2,hv]
  exact aO
 case h_23 args ts ho=>
  split
  ·rename_i s x t u h1 h2
   split
   ·rename_i sz by' ag ze e en hu
    simp only [dD]
    refine λh=>QN hty R (hty u _ hu).und (λv w' hv=> ?_) h
    simp [execOp,ho,resolve,invoke,builtin,afc h1,afz h2,hv]
   exact aO
  exact aO
 case h_24 args ts ho=>
  rw [pG]
  refine λh=>DI R (mx:=true) (λv hv=> ?_) h
  simp only [if_true] at hv
  have hv':(Builtin.max_ ts o.type (args.map a.eval)).run P w= .ok v w:=hv
  simp [execOp,ho,resolve,invoke,builtin,hv']
 case h_25 args ts ho=>
  rw [pG]
  refine λh=>DI R (mx:=false) (λv hv=> ?_) h
  simp only [Bool.false_eq_true,if_false] at hv
  have hv':(Builtin.min_ ts o.type (args.map a.eval)).run P w= .ok v w:=hv
  simp [execOp,ho,resolve,invoke,builtin,hv']
 case h_26 f args ts ho=>
  rw [dD]
  split
  ·rename_i g caps hv
   rw [pG]
   exact λh=>Ko htb R ho (by have:=R.val f; rw [hv] at this; exact this) h
  ·rename_i g hv
   rw [pG]
   exact λh=>Ko htb R ho (by
    have h0:=R.val f
    rw [hv] at h0
    generalize a.eval f=v0 at h0
    cases h0
    exact ⟨#[],rfl,rfl,λi hi=>absurd hi (by simp)⟩) h
  exact aO
 case h_27 t x ho=>rw [dD]; exact λh=>UQ hty R ho h
 case h_28 t ho=>exact λh=>Ny hty R ho h
 case h_29 t x k ho=>simp only [dD]; exact λh=>QK hty R ho h
 case h_30 t x k v ho=>
  simp only [dD]
  split
  ·exact λh=>vV hty R (.inl ho) h
  exact aO
 case h_31 t x k v ho=>
  simp only [dD]
  split
  ·exact λh=>vV hty R (.inr ho) h
  exact aO
 case h_32=>exact aO
end
end Go.dR
set_option linter.unusedVariables false
set_option linter.unusedSimpArgs false
namespace Go.dR
def AV.strip:AV->AV
 | .cnd true x=> .u x
 | v=>v
def St.strip (st:St):St:= { st with sl:=st.sl.map λp=>(p.1,p.2.strip) }
theorem Nk {α β:Type} (f:α->β) (l:List (Nat×α)) (k:Nat):lk (l.map λp=>(p.1,f p.2)) k=(lk l k).map f:=by
 induction l with
 | nil=>rfl
 | cons p r ih=>simp only [List.map_cons,lk]; split<;>simp_all
def KE (nt:Nat):Option Nat->Prop
 | some t=>t<nt
 | none=>True
def fB (ty:iT) (tb:qj) (nt:Nat) (ds:List (Option Nat)) (o:Oper) (st:St):Prop×St:=
 ((((eX ty tb ds o).run st).nO/\KE nt o.dst),st.done o.dst ((eX ty tb ds o).run st))
def lg (ty:iT) (tb:qj) (nt:Nat) (ops:List Oper):List Nat->St->Prop×St
 | [],st=>(True,st)
 | i::l,st=>
  match ops[i]? with
  | none=>lg ty tb nt ops l st
  | some o=>((fB ty tb nt (ops.map (·.dst)) o st).1/\(lg ty tb nt ops l (fB ty tb nt (ops.map (·.dst)) o st).2).1,(lg ty tb nt ops l (fB ty tb nt (ops.map (·.dst)) o st).2).2)
def iQ (ty:iT) (tb:qj) (nt:Nat) (ds:List (Option Nat)):List Oper->St->Prop×St
 | [],st=>(True,st)
 | o::r,st=>((fB ty tb nt ds o st).1/\(iQ ty tb nt ds r (fB ty tb nt ds o st).2).1,(iQ ty tb nt ds r (fB ty tb nt ds o st).2).2)
theorem acG (ops:List Oper) (j:Nat):Qb (ops.map (·.dst)) j=(ops[j]?).bind (·.dst):=by
 induction ops generalizing j with
 | nil=>rfl
 | cons o r ih=>cases j<;>simp [Qb,ih]
theorem BO (ty:iT) (tb:qj) (nt:Nat) (ops:List Oper):∀ (r p:List Oper) (st:St),ops=p++r->lg ty tb nt ops ((List.range r.length).map (p.length+ ·)) st=iQ ty tb nt (ops.map (·.dst)) r st
 | [],p,st,_=>rfl
 | o::r,p,st,h=>by
  have hl:(List.range (o::r).length).map (p.length+ ·)=p.length::(List.range r.length).map ((p++[o]).length+ ·):=by
   rw [List.length_cons,List.range_succ_eq_map,List.map_cons,List.map_map]
   simp only [List.length_append,List.length_singleton,Nat.add_zero]
   congr 1
   apply List.map_congr_left
   intro x _
   simp; omega
  have ho:ops[p.length]? =some o:=by rw [h,List.getElem?_append_right (Nat.le_refl _)]; simp
  rw [hl]
  simp only [lg,ho,iQ]
  rw [BO ty tb nt ops r (p++[o]) _ (by rw [h]; simp)]
section
variable {P:Program} {ty:iT} {tb:qj} {cx:Cx} {st:St} {m m1 m':Mp} {a:Act} {w w':World} {o:Oper} {out:Out} {ws:List Wr}
theorem Rel.strip (R:Rel cx st m a w):Rel cx st.strip m a w:=by
 refine { R with slots:=λt v h=> ?_ }
 simp only [St.strip,Nk,Option.map_eq_some_iff] at h
 obtain ⟨u,hu,rfl⟩:=h
 obtain ⟨h1,h2⟩:=R.slots t u hu
 refine ⟨h1,?_⟩
 unfold AV.strip
 split
 ·exact h2.1 rfl
 exact h2
theorem Rel.jf (R:Rel cx st.strip m a w):Rel cx st m a w:=by
 refine { R with slots:=λt v h=> ?_ }
 have:=R.slots t v.strip (by simp only [St.strip,Nk,h,Option.map_some])
 refine ⟨this.1,?_⟩
 cases v with
 | cnd b x=>
  cases b with
  | true=>exact ⟨λ_=>this.2,λh=>absurd h (by simp)⟩
  | false=>exact this.2
 | _=>exact this.2
theorem yw (p:Prop) (r:Rd Out) (st:St):(mW p r).run st= { r.run st with nO:=p/\(r.run st).nO } :=by
 induction r with
 | ret o=>rfl
 | slot t k ih=>simp only [mW,Rd.run]; exact ih _
 | box b k ih=>simp only [mW,Rd.run]; exact ih _
 | lab l k ih=>simp only [mW,Rd.run]; exact ih _
theorem LG (c:Bool) (r:Rd Out) (st:St) (h:((bQ c r).run st).nO):∃ x,((bQ c r).run st).dst= .cnd c x/\((bQ c r).run st).wr=[]:=by
 induction r with
 | ret o=>
  simp only [bQ] at h ⊢
  split at h
  ·exact ⟨_,rfl,rfl⟩
  ·exact h.elim
 | slot t k ih=>
  simp only [bQ,Rd.run] at h ⊢
  split at h
  ·rw [yw] at h ⊢
   exact ih _ h.2
  ·exact ih _ h
 | box b k ih=>exact ih _ h
 | lab l k ih=>exact ih _ h
theorem OX (r:Rd Out) (st:St) (h:((bQ true r).run st).nO):∃ x,((bQ true r).run st).dst= .cnd true x/\((bQ true r).run st).wr=[]/\(r.run st.strip).nO/\(r.run st.strip).dst= .u x/\(r.run st.strip).wr=[]:=by
 induction r with
 | ret o=>
  simp only [bQ] at h ⊢
  split at h
  ·rename_i x h1 h2
   exact ⟨_,rfl,rfl,h (by first | rfl | trivial),h2,h1⟩
  ·exact h.elim
 | slot t k ih=>
  simp only [bQ,Rd.run,St.strip,Nk] at h ⊢
  split at h
  ·rename_i q x hv
   rw [yw] at h ⊢
   have hq:q=true:=h.1 trivial
   subst hq
   have hl:((lk st.sl t).map AV.strip).getD default= .u x:=by
    cases hs:lk st.sl t with
    | none=>rw [hs] at hv; cases hv
    | some v=>rw [hs] at hv; simp only [Option.getD_some] at hv; subst hv; rfl
   simp only [hl]
   exact ih _ h.2
  ·rename_i hne
   have hl:((lk st.sl t).map AV.strip).getD default=(lk st.sl t).getD default:=by
    cases hs:lk st.sl t with
    | none=>rfl
    | some v=>
     simp only [Option.map_some,Option.getD_some]
     cases v with
     | cnd b x=>exact (hne b x (by rw [hs]; rfl)).elim
     | _=>rfl
   simp only [hl]
   exact ih _ h
 | box b k ih=>exact ih _ h
 | lab l k ih=>exact ih _ h
theorem vC (R:Rel cx (bK st out.wr) m' a w) {dst:Option Nat} {v:Value} (hd:KE cx.nt dst) (hv:RA cx m' w (lk (bK st out.wr).lb) out.dst v) :
 Rel cx (st.done dst out) m' (a.put dst v) w:=by
 cases dst with
 | none=>exact R
 | some t=>exact R.slot hd hv
theorem uQ (x:Operand):valOf st.strip x=(valOf st x).strip:=by
 cases x with
 | tmp t=>
  simp only [valOf,St.strip,Nk]
  cases lk st.sl t<;>rfl
 | const v=>cases v<;>rfl
 | _=>rfl
theorem qK {v : AV} {x : AU} {q : Bool} (h : jf v = some (x, q)) : jf v.strip = some (x, q) /\ (q = true -> v.strip = .u x) := by
  cases v with
  | u y => obtain ⟨rfl, rfl⟩ := by simpa [jf] using h
           exact ⟨rfl, λ_ => rfl⟩
  | cnd c y =>
    obtain ⟨rfl, rfl⟩ := by simpa [jf] using h
    cases c with
    | true => exact ⟨rfl, λ_ => rfl⟩
    | false => exact ⟨rfl, λh => by cases h⟩
  | Jy l => cases h
theorem Ls (c:Bool) (o:Oper) (r:Rd Out) (st:St) (h:((dP c o.op r).run st).nO):∃ x,((dP c o.op r).run st).dst= .cnd c x/\((dP c o.op r).run st).wr=[]:=by
 unfold dP at h ⊢
 split at h
 ·rename_i p x y heq
  simp only [dD] at h ⊢
  unfold Ar at h ⊢
  split at h
  ·split at h
   ·exact ⟨_,rfl,rfl⟩
   ·exact ⟨_,rfl,rfl⟩
   exact h.elim
  exact h.elim
 exact LG c r st h
theorem OM {ty:iT} {tb:qj} (o:Oper) (st:St) (h:((dP true o.op (fJ ty tb false o)).run st).nO) :
 ∃ x,((dP true o.op (fJ ty tb false o)).run st).dst= .cnd true x/\((dP true o.op (fJ ty tb false o)).run st).wr=[]/\((fJ ty tb false o).run st.strip).nO/\((fJ ty tb false o).run st.strip).dst= .u x/\((fJ ty tb false o).run st.strip).wr=[]:=by
 unfold dP at h ⊢
 split at h
 ·rename_i p x y heq
  have e:∀ s:St,(fJ ty tb false o).run s=(tK (valOf s p) (valOf s x) (valOf s y)).run s:=by
   intro s
   simp only [fJ,heq,dD]
  rw [e,uQ,uQ,uQ]
  simp only [dD] at h ⊢
  unfold Ar at h ⊢
  split at h
  ·rename_i p' qp x' q y' r h1 h2 h3
   obtain ⟨g1,g1'⟩:=qK h1
   obtain ⟨g2,-⟩:=qK h2
   obtain ⟨g3,-⟩:=qK h3
   split at h
   ·obtain ⟨k1,k2,k3⟩:=h rfl
    refine ⟨_,rfl,rfl,?_⟩
    rw [g1' k1]
    simp only [tK,g2,g3,Rd.run]
    exact ⟨⟨k2,k3⟩,trivial,trivial⟩
   ·obtain ⟨k1,k2,k3,k4⟩:=h rfl
    refine ⟨_,rfl,rfl,?_⟩
    rw [g1' k1]
    simp only [tK,g2,g3,Rd.run]
    exact ⟨⟨k2,k3,k4⟩,trivial,trivial⟩
   exact h.elim
  exact h.elim
 exact OX _ st h
def FR (ρ:Option Nat):Fence:= { Fence.wide with round:=ρ }
theorem Ih {ρ:Option Nat} {n:Nat} {f:FuncId} {args:Array Value} {w:World} {R:Ending->World->Prop}:CallsIn (FR ρ) n P f args w R↔Calls P f args w R:=
 callsIn_wide (n:=n)
theorem YU {ρ:Option Nat} {n:Nat} {row:String} {args:Array Value} {w:World} {R:Value->World->Prop} (h:Rows P row args w R):RowsIn (FR ρ) n P row args w R:=
 λc cs _=>let ⟨v,w',r,s⟩:=h c cs; ⟨v,w',r,(stepsIn_wide (P:=P)).2 s⟩
theorem lI {ρ:Option Nat} (hd:∀ c,o.op≠ .defer c) {next:Act->World->Prop} {Q:Exit->Act->World->Prop} (h:o.wp P a w next Q):o.wpIn (FR ρ) 0 P a w next Q:=by
 refine ⟨λ_ _=>trivial,?_⟩
 rw [show (FR ρ).round=ρ from rfl,Oper.semAt_eq ρ a.eval o hd]
 unfold Oper.wp at h
 generalize (execOp a.eval o).run P w=r at h
 unfold Oper.upon at h
 unfold Oper.uponIn
 split at h
 ·exact h
 ·exact h
 ·exact h
 ·exact ⟨(λe=>by cases e),Ih.2 h⟩
 ·exact ⟨(λe=>by cases e),YU h⟩
 ·exact h
 exact h.elim
theorem Au {ty:iT} {tb:qj} {lin:Bool} {st:St} (h:((fJ ty tb lin o).run st).nO):∀ c,o.op≠ .defer c:=by
 intro c e
 simp only [fJ,e] at h
 exact h
theorem JC {ρ:Option Nat} (hty:iP P ty) (htb:fM P tb) (R:Rel cx st m a w) {ops:Array Oper} {rest:Act->World->Prop} {Q:Exit->Act->World->Prop}
 (aY:(fB ty tb cx.nt (ops.toList.map (·.dst)) o st).1) (hnext:∀ m' a' w',Rel cx (fB ty tb cx.nt (ops.toList.map (·.dst)) o st).2 m' a' w'->rest a' w') :
 if Region.wanted o (yielded ops a.tmps) then o.wpIn (FR ρ) 0 P a w rest Q else (∀ f,o.about P w a.eval=some f->(FR ρ).fn f)/\rest (a.put o.dst undef) w:=by
 obtain ⟨h1,h2⟩:=aY
 simp only [fB] at hnext
 unfold eX at h1 hnext
 simp only [acG] at h1 hnext
 cases hg:o.guard with
 | none=>
  simp only [hg] at h1 hnext
  rw [if_pos (by simp [Region.wanted,hg])]
  exact lI (Au h1) (Ky hty htb R h1 rest Q λv m' w' R' hv=>hnext m' _ w' (vC R' h2 hv))
 | some g=>
  obtain ⟨j,want⟩:=g
  simp only [hg] at h1 hnext
  have alE:∀ t,(ops.toList[j]?).bind (·.dst)=some t->yielded ops a.tmps j=(match a.tmps[t]? with | some (.bool b)=>some b | _=>none):=by
   intro t ht
   simp only [yielded]
   rw [<- Array.getElem?_toList,ht]
   rfl
  have key:∀ c:Bool,(Region.wanted o (yielded ops a.tmps)=true↔c=true)->((dP c o.op (fJ ty tb false o)).run st).nO->
   (∀ m' a' w',Rel cx (st.done o.dst ((dP c o.op (fJ ty tb false o)).run st)) m' a' w'->rest a' w')->
   if Region.wanted o (yielded ops a.tmps) then o.wpIn (FR ρ) 0 P a w rest Q else (∀ f,o.about P w a.eval=some f->(FR ρ).fn f)/\rest (a.put o.dst undef) w:=by
   intro c hc k1 k2
   cases c with
   | true=>
    rw [if_pos (hc.2 rfl)]
    obtain ⟨x,e1,e2,e3,e4,e5⟩:=OM _ _ k1
    refine lI (Au e3) (Ky hty htb R.strip e3 rest Q λv m' w' R' hv=>k2 m' _ w' ?_)
    rw [e5] at R' hv
    rw [e4] at hv
    refine vC (st:=st) (m':=m') ?_ h2 ?_
    ·rw [e2]; exact Rel.jf R'
    ·rw [e2,e1]; exact ⟨λ_=>hv,λh=>absurd h (by simp)⟩
   | false=>
    rw [if_neg (by intro h; exact absurd (hc.1 h) (by simp))]
    obtain ⟨x,e1,e2⟩:=Ls _ _ _ _ k1
    refine ⟨λ_ _=>trivial,k2 m _ w (vC (st:=st) (m':=m) ?_ h2 ?_)⟩
    ·rw [e2]; exact R
    rw [e2,e1]; exact ⟨λh=>absurd h (by simp),λ_=>rfl⟩
  cases hj:(ops.toList[j]?).bind (·.dst) with
  | none=>simp only [hj] at h1; exact h1.elim
  | some t=>
   simp only [hj,Rd.run] at h1 hnext
   have hy:=alE t hj
   have ht:∀ v,lk st.sl t=some v->a.tmps[t]? =some (a.tmps.getD t undef):=by
    intro v hv
    have:=(R.slots t v hv).1
    rw [<- R.nt] at this
    simp [Array.getD_eq_getD_getElem?,this]
   cases hv:lk st.sl t with
   | none=>simp only [hv,Option.getD_none] at h1; exact h1.elim
   | some v=>
    simp only [hv,Option.getD_some] at h1 hnext
    have hr:=(R.slots t v hv).2
    rw [ht v hv] at hy
    split at h1
    ·rename_i b
     refine key (b == want) ?_ h1 hnext
     rw [qB hr] at hy
     simp only at hy
     simp only [Region.wanted,hg,hy]
     cases b<;>cases want<;>simp
    ·rename_i q b
     refine key (q && (b == want)) ?_ h1 hnext
     cases q with
     | true=>
      rw [qB (hr.1 rfl)] at hy
      simp only at hy
      simp only [Region.wanted,hg,hy,Bool.true_and]
      cases b<;>cases want<;>simp
     | false=>
      rw [hr.2 rfl] at hy
      simp only [undef] at hy
      simp [Region.wanted,hg,hy]
    exact h1.elim
theorem Bv {ρ:Option Nat} (hty:iP P ty) (htb:fM P tb) {ops:Array Oper} {Q:Exit->Act->World->Prop} (l:List Nat):∀ (st:St) (m:Mp) (a:Act) (w:World),Rel cx st m a w->(lg ty tb cx.nt ops.toList l st).1->
 (∀ m' a' w',Rel cx (lg ty tb cx.nt ops.toList l st).2 m' a' w'->Q .normal a' w')->wpOpsIn (FR ρ) 0 P ops Q l a w:=by
 induction l with
 | nil=>intro st m a w R _ h; exact h m a w R
 | cons i l ih=>
  intro st m a w R h1 h2
  simp only [wpOpsIn]
  simp only [lg,Array.getElem?_toList] at h1 h2
  cases ho:ops[i]? with
  | none=>simp only [ho] at h1 h2; exact ih st m a w R h1 h2
  | some o=>
   simp only [ho] at h1 h2
   exact JC hty htb R h1.1 (λm' a' w' R'=>ih _ m' a' w' R' h1.2 h2)
theorem MF {ρ:Option Nat} (hty:iP P ty) (htb:fM P tb) (R:Rel cx st m a w) {id:Nat} {ops:Array Oper} {Q:Exit->Act->World->Prop} (h1:(iQ ty tb cx.nt (ops.toList.map (·.dst)) ops.toList st).1)
 (h2:∀ m' a' w',Rel cx (iQ ty tb cx.nt (ops.toList.map (·.dst)) ops.toList st).2 m' a' w'->Q .normal a' w'):(Code.region id ops false).wpIn (FR ρ) 0 P Q a w:=by
 have e:=BO ty tb cx.nt ops.toList ops.toList [] st rfl
 simp only [List.length_nil,Nat.zero_add,Array.length_toList] at e
 have e2:(List.range ops.size).map (λx=>x)=List.range ops.size:=by simp
 rw [e2] at e
 exact wpIn_region (Bv hty htb _ st m a w R (by rw [e]; exact h1) (by rw [e]; exact h2))
end
end Go.dR
set_option linter.unusedVariables false
set_option linter.unusedSimpArgs false
namespace Go.dR
def D.scalar:D->Bool | .int _ _=>true | .bool _=>true | .str _=>true | .err _=>true | _=>false
def D.flat (x:D):Prop:=∀ i,i<x.len->(x.nth i).all D.scalar=true
def Ib (al:Bool) (lb:Nat->Option fE):AC->RC->Prop
 | .d y,.d x=>y=x/\(al=true\/x.scalar=true)
 | .own k,.own x=>lb k=some (.owned x)/\(al=true\/x.flat)
 | .own k,.d x=>(lb k=some (.owned x)/\(al=true\/x.flat))\/(al=true/\lb k=some (.shared x))
 | .dF,.d x=>x.cu=true/\x.len=0
 | .dF,.own x=>x.cu=true/\x.len=0
 | .dM l 0,.d x=>x= .pt true l/\al=true
 | _,_=>False
def AB (al:Bool) (lb:Nat->Option fE):List AC->List RC->Prop
 | [],[]=>True
 | c::cs,r::rs=>Ib al lb c r/\AB al lb cs rs
 | _,_=>False
def ahV (al:Bool) (lb:Nat->Option fE):AU->RV->Prop
 | .c c,.c r=>Ib al lb c r
 | .agg cs,.agg rs=>AB al lb cs rs
 | _,_=>False
def Ry (al:Bool) (lb:Nat->Option fE):List AU->List RV->Prop
 | [],[]=>True
 | x::xs,r::rs=>ahV al lb x r/\Ry al lb xs rs
 | _,_=>False
def yB (ty:iT) (st:St):ResultVar->Prop×AU
 | .tmp t=>match (lk st.sl t).getD default with
  | .u x=>(True,x)
  | _=>(False,default)
 | .cell t i=>match (iZ ty i ((lk st.sl t).getD default)).run st with
  | ⟨p,.u x,[]⟩=>(p,x)
  | _=>(False,default)
def fA (ty:iT) (st:St):List ResultVar->Prop×List AU
 | []=>(True,[])
 | r::rs=>((yB ty st r).1/\(fA ty st rs).1,(yB ty st r).2::(fA ty st rs).2)
def GH:AC->Option Nat
 | .own k=>some k
 | _=>none
def jg:List AC->List RC->List (Option Nat)
 | c::cs,.own _::rs=>GH c::jg cs rs
 | _::cs,.d _::rs=>jg cs rs
 | _,_=>[]
def o9:List AC->List RC->List Nat
 | c::cs,.d _::rs=>(GH c).toList++o9 cs rs
 | _::cs,.own _::rs=>o9 cs rs
 | _,_=>[]
def lK:List AU->List RV->List (Option Nat)
 | x::xs,r::rs=>jg x.cells r.cells++lK xs rs
 | _,_=>[]
def xG:List AU->List RV->List Nat
 | x::xs,r::rs=>o9 x.cells r.cells++xG xs rs
 | _,_=>[]
def fin (ty:iT) (fn:List ResultVar) (al:Bool) (rs:List RV) (st:St):Prop:=
 (fA ty st fn).1/\Ry al (lk st.lb) (fA ty st fn).2 rs/\((lK (fA ty st fn).2 rs).filterMap id).Nodup/\∀ k∈xG (fA ty st fn).2 rs,k∉(lK (fA ty st fn).2 rs).filterMap id
section
variable {P:Program} {ty:iT} {tb:qj} {cx:Cx} {st:St} {m m1 m':Mp} {a:Act} {w w':World} {o:Oper} {out:Out} {ws:List Wr}
theorem RD.FP {S S':Nat->Prop} {x:D} {v:Value} (hs:x.scalar=true) (h:RD w S x v):RD w S' x v:=by
 cases x with
 | int k n=>cases h; exact .int _ _
 | bool b=>cases h; exact .bool _
 | str s=>cases h; exact .str _
 | err b=>cases h; exact .Vk; exact .DK _ _
 | _=>simp [D.scalar] at hs
def RS (cx:Cx) (al:Bool) (own:Nat->Option Nat) (B:Nat):Prop:=((al=true/\cx.S0 B)\/cx.w0.heap.size<=B)/\∀ j,own j≠some B
def pK (L:List (Option Nat)) (m:Mp) (j:Nat):Option Nat:=(L.getD j none).bind m.own
theorem ny {L:List (Option Nat)} {j B:Nat} (h:pK L m j=some B):∃ k,L[j]? =some (some k)/\m.own k=some B:=by
 unfold pK at h
 rw [List.getD_eq_getElem?_getD] at h
 cases hl:L[j]? with
 | none=>rw [hl] at h; cases h
 | some q=>
  rw [hl] at h
  cases q with
  | none=>cases h
  | some k=>exact ⟨k,rfl,h⟩
theorem acH {L:List (Option Nat)}:(L.filterMap id).Nodup->∀ {i j k:Nat},L[i]? =some (some k)->L[j]? =some (some k)->i=j:=by
 induction L with
 | nil=>intro _ i j k h; simp at h
 | cons q L ih=>
  intro hnd i j k hi hj
  have hmem:∀ {i},L[i]? =some (some k)->k∈L.filterMap id:=λh=>List.mem_filterMap.2 ⟨_,List.mem_of_getElem? h,rfl⟩
  have hnd':(L.filterMap id).Nodup/\(q=some k->k∉L.filterMap id):=by
   cases q with
   | none=>exact ⟨by simpa using hnd,λh=>by cases h⟩
   | some k'=>
    simp only [List.filterMap_cons,id,List.nodup_cons] at hnd
    refine ⟨hnd.2,λh=> ?_⟩
    obtain rfl:=Option.some.inj h
    exact hnd.1
  cases i with
  | zero=>
   cases j with
   | zero=>rfl
   | succ j=>exact absurd (hmem (by simpa using hj)) (hnd'.2 (by simpa using hi))
  | succ i=>
   cases j with
   | zero=>exact absurd (hmem (by simpa using hi)) (hnd'.2 (by simpa using hj))
   | succ j=>exact congrArg (· +1) (ih hnd'.1 (k:=k) (by simpa using hi) (by simpa using hj))
theorem Xj (R:Rel cx st m a w) {al:Bool} {L:List (Option Nat)} {k B:Nat} {x:D} (hk:lk st.lb k=some (.owned x)) (hB:m.own k=some B) (hf:al=true\/x.flat) :
 Row w (RS cx al (pK L m)) B x:=by
 obtain ⟨hs,hrow⟩:=R.owned k x hk
 obtain ⟨c,T,hc,hs,hx⟩:=hrow B hB
 refine ⟨c,T,hc,hs,λi hi=>⟨(hx i hi).1,λj hj=> ?_⟩⟩
 obtain ⟨u,hu,hr⟩:=(hx i hi).2 j hj
 refine ⟨u,hu,?_⟩
 rcases hf with rfl | hf
 ·refine RD.ext ⟨Nat.le_refl _,λ_ _ _=>rfl,λB' _ h=>⟨?_,λj hj=> ?_⟩⟩ hr
  ·rcases h.1 with h | h
   ·exact .inl ⟨rfl,h⟩
   exact .inr h
  obtain ⟨k',_,h2⟩:=ny hj
  exact h.2.1 k' h2
 have:=List.all_eq_true.1 (hf i hi) ((x.nth i).getD j .undef) (by
  rw [List.getD_eq_getElem?_getD,List.getElem?_eq_getElem (by rw [(hx i hi).1]; exact hj)]
  exact List.getElem_mem _)
 exact RD.FP this hr
theorem Vt (R:Rel cx st m a w) {al:Bool} {L:List (Option Nat)} {c:AC} {x:D} {v:Value} (h:Ib al (lk st.lb) c (.d x)) (hv:fD cx m w (lk st.lb) c v)
 (hsh:∀ k,c= .own k->k∉L.filterMap id):RD w (RS cx al (pK L m)) x v:=by
 have QG:al=true->Ext w w (fP cx m) (RS cx al (pK L m)):=λha=>⟨Nat.le_refl _,λ_ _ _=>rfl,λB _ h=>⟨by
  rcases h.1 with h | h
  ·exact .inl ⟨ha,h⟩
  ·exact .inr h,λj hj=>by
  obtain ⟨k',_,h2⟩:=ny hj
  exact h.2.1 k' h2⟩⟩
 cases c with
 | d y=>
  obtain ⟨rfl,h⟩:=h
  rcases h with h | h
  ·exact RD.ext (QG h) hv
  ·exact RD.FP h hv
 | dF=>
  obtain ⟨h1,h2⟩:=h
  obtain rfl:=hv
  rw [D.eta h1,h2]; exact .sl0 _ _ _ _
 | own k=>
  simp only [fD] at hv
  rcases h with ⟨hk,hf⟩ | ⟨ha,hk⟩
  ·simp only [hk] at hv
   have hs:=(R.owned k x hk).1
   cases hB:m.own k with
   | none=>
    simp only [hB,nN] at hv
    obtain ⟨rfl,hn⟩:=hv
    rw [D.eta hs,hn]; exact .sl0 _ _ _ _
   | some B=>
    simp only [hB,nN] at hv
    obtain ⟨cap,c,T,rfl,_,_,hle⟩:=hv
    refine yx (Xj R hk hB hf) ⟨.inr (R.dK k B hB).1,λj hj=> ?_⟩ (R.dK k B hB).2 hle
    obtain ⟨k',h1,h2⟩:=ny hj
    obtain rfl:=R.je _ _ _ h2 hB
    exact hsh _ rfl (List.mem_filterMap.2 ⟨_,List.mem_of_getElem? h1,rfl⟩)
  ·simp only [hk] at hv
   exact hv.2.ext (QG ha)
 | dM l off=>
  cases off with
  | zero=>obtain ⟨rfl,ha⟩:=h; exact RD.ext (QG ha) (FX.2 hv)
  | succ o=>exact h.elim
 | _=>exact h.elim
theorem wY (R:Rel cx st m a w) {al:Bool} {L:List (Option Nat)}:∀ {cs:List AC} {rs:List RC} {vs:List Value} {j:Nat},AB al (lk st.lb) cs rs->vs.length=cs.length->
 (∀ i,i<cs.length->∃ u,vs[i]? =some u/\fD cx m w (lk st.lb) (cs.getD i .undef) u)->
 (∀ i q,(jg cs rs)[i]? =some q->L[j+i]? =some q)->(∀ k∈o9 cs rs,k∉L.filterMap id)->Ou w (RS cx al (pK L m)) (pK L m) j rs vs/\(jg cs rs).length=xB rs
 | [],[],[],j,_,_,_,_,_=>⟨trivial,rfl⟩
 | [],[],_::_,_,_,h,_,_,_=>by simp at h
 | [],_::_,_,_,h,_,_,_,_=>h.elim
 | _::_,[],_,_,h,_,_,_,_=>h.elim
 | c::cs,r::rs,[],_,_,h,_,_,_=>by simp at h
 | c::cs,r::rs,v::vs,j,hok,hl,hv,hL,hsh=>by
  obtain ⟨u,hu,h0⟩:=hv 0 (by simp)
  obtain rfl:v=u:=by simpa using hu
  simp only [List.getD_cons_zero] at h0
  have hv':∀ i,i<cs.length->∃ u,vs[i]? =some u/\fD cx m w (lk st.lb) (cs.getD i .undef) u:=λi hi=>by simpa using hv (i+1) (by simpa using hi)
  cases r with
  | d x=>
   obtain ⟨g1,g2⟩:=wY R (j:=j) hok.2 (by simpa using hl) hv' hL (λk hk=>hsh k (by simp only [o9]; exact List.mem_append.2 (.inr hk)))
   refine ⟨⟨Vt R hok.1 h0 (λk e=>hsh k ?_),g1⟩,g2⟩
   subst e
   simp [o9,GH]
  | own x=>
   have hL0:L[j]? =some (GH c):=by simpa using hL 0 _ (by simp [jg])
   obtain ⟨g1,g2⟩:=wY R (j:=j+1) hok.2 (by simpa using hl) hv' (λi q hq=>by
    have:=hL (i+1) q (by simpa [jg] using hq)
    rwa [show j+(i+1)=j+1+i by omega] at this) hsh
   have hown:pK L m j=(GH c).bind m.own:=by
    unfold pK
    rw [List.getD_eq_getElem?_getD,hL0]; rfl
   refine ⟨⟨?_,g1⟩,by simp [jg,xB,g2]⟩
   cases c with
   | dF=>
    obtain ⟨h1,h2⟩:=hok.1
    obtain rfl:=h0
    refine ⟨h1,?_,λB hB=>by rw [hown] at hB; cases hB⟩
    rw [hown]; exact ⟨rfl,h2⟩
   | own k=>
    obtain ⟨hk,hf⟩:=hok.1
    simp only [fD,hk] at h0
    simp only [GH,Option.bind_some] at hown
    refine ⟨(R.owned k x hk).1,by rw [hown]; exact h0,λB hB=> ?_⟩
    rw [hown] at hB
    exact Xj R hk hB hf
   | dM l off=>cases off<;>exact hok.1.elim
   | _=>exact hok.1.elim
theorem amo (R:Rel cx st m a w) {al:Bool} {L:List (Option Nat)} {x:AU} {r:RV} {v:Value} {j:Nat} (hok:ahV al (lk st.lb) x r) (hv:RU cx m w (lk st.lb) x v)
 (hL:∀ i q,(jg x.cells r.cells)[i]? =some q->L[j+i]? =some q) (hsh:∀ k∈o9 x.cells r.cells,k∉L.filterMap id) :
 RRv w (RS cx al (pK L m)) (pK L m) j r v/\(jg x.cells r.cells).length=xB r.cells:=by
 cases x with
 | c c=>
  cases r with
  | c r=>exact wY R (cs:=[c]) (rs:=[r]) (vs:=[v]) ⟨hok,trivial⟩ rfl (λi hi=>by
   have:i=0:=by simp at hi; omega
   subst this; exact ⟨v,rfl,hv⟩) hL hsh
  | agg _=>exact hok.elim
 | agg cs=>
  cases r with
  | c _=>exact hok.elim
  | agg rs=>
   obtain ⟨vs,rfl,hsz,hc⟩:=hv
   obtain ⟨g1,g2⟩:=wY R (cs:=cs) (rs:=rs) (vs:=vs.toList) (j:=j) hok (by simpa using hsz) (λi hi=>by simpa using hc i hi) hL hsh
   exact ⟨⟨vs,rfl,g1⟩,g2⟩
theorem Yl (R:Rel cx st m a w) {al:Bool} {L:List (Option Nat)}:∀ {xs:List AU} {rs:List RV} {vs:List Value} {j:Nat},Ry al (lk st.lb) xs rs->vs.length=xs.length->
 (∀ i,i<xs.length->∃ u,vs[i]? =some u/\RU cx m w (lk st.lb) (xs.getD i default) u)->
 (∀ i q,(lK xs rs)[i]? =some q->L[j+i]? =some q)->(∀ k∈xG xs rs,k∉L.filterMap id)->RN w (RS cx al (pK L m)) (pK L m) j rs vs
 | [],[],[],_,_,_,_,_,_=>trivial
 | [],[],_::_,_,_,h,_,_,_=>by simp at h
 | [],_::_,_,_,h,_,_,_,_=>h.elim
 | _::_,[],_,_,h,_,_,_,_=>h.elim
 | _::_,_::_,[],_,_,h,_,_,_=>by simp at h
 | x::xs,r::rs,v::vs,j,hok,hl,hv,hL,hsh=>by
  obtain ⟨u,hu,h0⟩:=hv 0 (by simp)
  obtain rfl:v=u:=by simpa using hu
  have hL1:∀ i q,(jg x.cells r.cells)[i]? =some q->L[j+i]? =some q:=λi q hq=>hL i q (by
   simp only [lK]; rw [List.getElem?_append_left (List.getElem?_eq_some_iff.1 hq).1]; exact hq)
  obtain ⟨g1,g2⟩:=amo R hok.1 h0 hL1 (λk hk=>hsh k (by simp only [xG]; exact List.mem_append.2 (.inl hk)))
  refine ⟨g1,Yl R hok.2 (by simpa using hl) (λi hi=>by simpa using hv (i+1) (by simpa using hi)) (λi q hq=> ?_) (λk hk=>hsh k (by simp only [xG]; exact List.mem_append.2 (.inr hk)))⟩
  have:=hL ((jg x.cells r.cells).length+i) q (by
   simp only [lK]; rw [List.getElem?_append_right (by omega)]; simpa using hq)
  rwa [<- Nat.add_assoc,g2] at this
def Ba (tmps:Array Value):ResultVar->Sem Value
 | .tmp t=>pure (tmps.getD t undef)
 | .cell x t=>do loadVar t (<- asAddr (tmps.getD x undef))
theorem FW (fn:Func) (tmps:Array Value):results fn tmps=(do
 let vs <- fn.results.mapM (Ba tmps)
 pure (if h:vs.size=1 then vs[0] else .tuple vs)):=by
 unfold results
 congr 1
theorem TF (hty:iP P ty) (R:Rel cx st m a w) {r:ResultVar} (h:(yB ty st r).1) :
 ∃ v,(Ba a.tmps r).run P w= .ok v w/\RU cx m w (lk st.lb) (yB ty st r).2 v:=by
 cases r with
 | tmp t=>
  simp only [yB] at h ⊢
  have hx:=R.val (.tmp t)
  simp only [valOf,Act.eval] at hx
  generalize (lk st.sl t).getD default=av at*
  split at h
  ·exact ⟨_,rfl,hx⟩
  ·exact h.elim
 | cell x t=>
  simp only [yB] at h ⊢
  have hx:RA cx m w (lk st.lb) ((lk st.sl x).getD default) (a.tmps.getD x undef):=R.val (.tmp x)
  have hg:=λho=>Ho (P:=P) hty R (t:=t) hx ho
  generalize hq:(iZ ty t ((lk st.sl x).getD default)).run st=q at*
  obtain ⟨p,d,ws⟩:=q
  split at h
  ·rename_i p' y he
   simp only [Out.mk.injEq] at he
   obtain ⟨rfl,rfl,rfl⟩:=he
   obtain ⟨b,v,hp,hv,hr,_⟩:=hg h
   exact ⟨v,by simp [Ba,hp,asAddr,hv],hr⟩
  exact h.elim
theorem yC (hty:iP P ty) (R:Rel cx st m a w):∀ {rs:List ResultVar},(fA ty st rs).1->
 ∃ vs:List Value,(rs.mapM (Ba a.tmps)).run P w= .ok vs w/\
  vs.length=rs.length/\(fA ty st rs).2.length=rs.length/\∀ i,i<rs.length->∃ u,vs[i]? =some u/\RU cx m w (lk st.lb) ((fA ty st rs).2.getD i default) u
 | [],_=>⟨[],rfl,rfl,rfl,λi hi=>by simp at hi⟩
 | r::rs,h=>by
  obtain ⟨v,h1,h2⟩:=TF (P:=P) hty R h.1
  obtain ⟨vs,g1,g2,g3,g4⟩:=yC hty R h.2
  refine ⟨v::vs,?_,by simp [g2],by simp [fA,g3],λi hi=> ?_⟩
  ·simp only [List.mapM_cons,Sem.run_bind,h1,Result.andThen_ok,g1,Sem.run_pure]
  cases i with
  | zero=>exact ⟨v,rfl,h2⟩
  | succ i=>simpa [fA] using g4 i (by simpa using hi)
theorem ad2 (hty:iP P ty) (R:Rel cx st m a w) {fn:Func} {sp:fO} {args:List Arg} (hf:fin ty fn.results.toList sp.alias (sp.res args) st) :
 ∃ v,(results fn a.tmps).run P w= .ok v w/\Left cx.w0 w cx.S0 sp args v:=by
 obtain ⟨h1,h2,h3,h4⟩:=hf
 obtain ⟨vs,g1,g2,g3,g4⟩:=yC (P:=P) hty R h1
 have hrun:(fn.results.mapM (Ba a.tmps)).run P w= .ok vs.toArray w:=by
  rw [Array.mapM_eq_mapM_toList]
  simp only [Sem.run_map,g1,Result.andThen_ok]
 have hrr:=Yl R (al:=sp.alias) (L:=lK (fA ty st fn.results.toList).2 (sp.res args)) (vs:=vs) (j:=0) h2 (by rw [g2,g3]) (λi hi=>g4 i (by rw [<- g3]; exact hi)) (λi q hq=>by rw [Nat.zero_add]; exact hq) h4
 refine ⟨_,by rw [FW,Sem.run_bind,hrun]; rfl,R.env,R.size,R.old,pK (lK (fA ty st fn.results.toList).2 (sp.res args)) m,λj B hj=> ?_,λi j B hi hj=> ?_,?_⟩
 ·obtain ⟨k,_,hk⟩:=ny hj
  exact R.dK k B hk
 ·obtain ⟨k,e1,hk⟩:=ny hi
  obtain ⟨k',e2,hk'⟩:=ny hj
  obtain rfl:=R.je _ _ _ hk hk'
  exact acH h3 e1 e2
 show RQ w (RS cx sp.alias _) _ _ _
 generalize pK (lK (fA ty st fn.results.toList).2 (sp.res args)) m=own at*
 unfold RQ
 split
 ·rename_i r hr
  rw [hr] at hrr
  match vs,hrr with
  | [v],hrr=>simpa using hrr.1
  | [],hrr=>exact hrr.elim
  | _::_::_,hrr=>exact hrr.2.elim
 rename_i hne
 have hlen:vs.length≠1:=by
  intro hl
  match vs,hl with
  | [v],_=>
   generalize sp.res args=rs at*
   match rs,hrr with
   | [],h=>exact h
   | [r],_=>exact hne r rfl
   | _::_::_,h=>exact h.2
 refine ⟨vs.toArray,?_,hrr⟩
 rw [dif_neg (by simpa using hlen)]
end
end Go.dR
set_option linter.unusedVariables false
set_option linter.unusedSimpArgs false
namespace Go.dR
structure jI (lo:Nat) (w w':World):Prop where
 env:dS w w'
 size:w'.heap.size=w.heap.size
 low:∀ B,B<lo->w'.heap[B]? =w.heap[B]?
 cells:∀ (B:Nat) (c:Array Value) (T:TypeId) (z:Nat×Nat),w.heap[B]? =some (.cells c T z)->w'.heap[B]? =some (.cells c T z)
 maps:∀ (B:Nat) es c,w.heap[B]? =some (.map es c)->w'.heap[B]? =some (.map es c)
theorem jI.to0 {lo:Nat} {w w':World} (h:jI lo w w'):l7 lo w w':=⟨h.env,h.size,h.low,h.cells⟩
theorem jI.refl (lo:Nat) (w:World):jI lo w w:=⟨.refl _,rfl,λ_ _=>rfl,λ_ _ _ _ h=>h,λ_ _ _ h=>h⟩
theorem jI.trans {lo:Nat} {a b c:World} (h:jI lo a b) (k:jI lo b c):jI lo a c:=
 ⟨h.env.trans k.env,k.size.trans h.size,λB hB=>(k.low B hB).trans (h.low B hB),λB x T z e=>k.cells B x T z (h.cells B x T z e),λB es c e=>k.maps B es c (h.maps B es c e)⟩
theorem jI.put {lo:Nat} {w:World} {l:Nat} {o:Obj} (o':Obj) (h:w.heap[l]? =some o) (ho:oP o) (hl:lo<=l):jI lo w (w.putObj l o'):=by
 refine ⟨⟨rfl,rfl,rfl⟩,World.putObj_size,λB hB=>World.putObj_heap_other (by omega),λB c T z e=> ?_,λB es c e=> ?_⟩
 ·rw [World.putObj_heap_other ?_]
  ·exact e
  rintro rfl
  rw [h] at e
  exact ho.1 _ _ _ (Option.some.inj e)
 rw [World.putObj_heap_other ?_]
 ·exact e
 rintro rfl
 rw [h] at e
 exact ho.2 _ _ (Option.some.inj e)
section
variable {lo:Nat} {w w':World} {S:Nat->Prop}
theorem jI.cell (h:jI lo w w') {B o:Nat} {u:Value} (hc:w.cell? ⟨B,o,none⟩=some u):w'.cell? ⟨B,o,none⟩=some u:=h.to0.cell hc
theorem jI.rd (h:jI lo w w') {d:D} {v:Value} (hd:RD w S d v):RD w' S d v:=h.to0.rd hd
theorem jI.ptr (h:jI lo w w') {l:List D} {off:Nat} {v:Value} (hp:Ptr w S l off v):Ptr w' S l off v:=h.to0.ptr hp
theorem jI.row (h:jI lo w w') {B:Nat} {x:D} (hr:Row w S B x):Row w' S B x:=h.to0.row hr
theorem jI.hdl (h:jI lo w w') {o:Option Nat} {x:D} {v:Value} (hx:nN w o x v):nN w' o x v:=h.to0.hdl hx
variable {cx:Cx} {m:Mp} {lb:Nat->Option fE}
theorem jI.aj9 (h:jI lo w w') {x:Cap} {v:Value} (hx:Dj cx m w x v):Dj cx m w' x v:=h.to0.aj9 hx
theorem jI.rcl (h:jI lo w w') {x:AC} {v:Value} (hx:fD cx m w lb x v):fD cx m w' lb x v:=h.to0.rcl hx
theorem jI.ru (h:jI lo w w') {x:AU} {v:Value} (hx:RU cx m w lb x v):RU cx m w' lb x v:=h.to0.ru hx
theorem jI.ra (h:jI lo w w') {x:AV} {v:Value} (hx:RA cx m w lb x v):RA cx m w' lb x v:=h.to0.ra hx
theorem Rel.vG {st:St} {a a':Act} (R:Rel cx st m a w) (hw:jI cx.w0.heap.size w w') {nt:Nat} {fG:List (AV×Value)} {recs:List (Nat×Obj)} {sl:List (Nat×AV)} {Ds:List Nat}
 (hd:Marks { cx with nt:=nt,fG:=fG,recs:=recs } w' a'.defers Ds) (hr:∀ p,p∈recs->cx.w0.heap.size<=p.1/\w'.heap[p.1]? =some p.2/\oP p.2) (hn:a'.tmps.size=nt)
 (hs:∀ t v,lk sl t=some v->t<nt/\RA cx m w (lk st.lb) v (a'.tmps.getD t undef)) (alJ:∀ p,p∈fG->RA cx m w (lk st.lb) p.1 p.2) :
 Rel { cx with nt:=nt,fG:=fG,recs:=recs } ⟨sl,st.bx,st.lb⟩ m a' w' where
 defers:=⟨Ds,hd⟩
 recs:=hr
 nt:=hn
 env:=R.env.trans hw.env
 size:=by rw [hw.size]; exact R.size
 old:=λB hB=>(hw.low B hB).trans (R.old B hB)
 s0:=R.s0
 slots:=λt v h=>⟨(hs t v h).1,jI.ra (cx:=cx) hw (hs t v h).2⟩
 fG:=λp hp=>jI.ra (cx:=cx) hw (alJ p hp)
 boxes:=λb cs hb=>by
  obtain ⟨B,c,T,h1,h2,h3,h4⟩:=R.boxes b cs hb
  refine ⟨B,c,T,h1,hw.cells _ _ _ _ h2,h3,λj hj=> ?_⟩
  obtain ⟨u,hu,hr⟩:=h4 j hj
  exact ⟨u,hu,jI.rcl (cx:=cx) hw hr⟩
 gI:=R.gI
 nG:=λk x hk=>⟨(R.nG k x hk).1,λB hB=>hw.row ((R.nG k x hk).2 B hB)⟩
 gX:=R.gX
 bn:= {
  ok:=λk x hk=>by
   obtain ⟨h1,h2,h3⟩:=R.bn.ok k x hk
   refine ⟨h1,h2,λj hj=>⟨(h3 j hj).1,?_⟩⟩
   rcases (h3 j hj).2 with ⟨g1,g2⟩ | ⟨g1,⟨B,u,g2,g3,g4⟩,g5⟩
   ·exact .inl ⟨g1,g2⟩
   obtain ⟨-,z,-,c,T,e1,-⟩:=R.PY g2
   refine .inr ⟨g1,⟨B,u,g2,?_,hw.hdl g4⟩,λB' h=>hw.row (g5 B' h)⟩
   simp only [World.cell?,hw.cells _ _ _ _ e1]
   simp only [World.cell?,e1] at g3
   exact g3
  only:=R.bn.only
  blk:=λk j B h=>⟨(R.bn.blk k j B h).1,by rw [hw.size]; exact (R.bn.blk k j B h).2⟩
  inj:=R.bn.inj
  own:=R.bn.own
  box:=R.bn.box }
 sets:= {
  ok:=λk x hk=>by
   obtain ⟨B,h1,h2⟩:=R.sets.ok k x hk
   exact ⟨B,h1,MapAt.keep (X3:= { cx with nt:=nt,fG:=fG,recs:=recs }) h2 (λes c h=>hw.maps _ _ _ h) (λ_ _ h=>jI.rcl (cx:=cx) hw h)⟩
  blk:=λk B h=>⟨(R.sets.blk k B h).1,by rw [hw.size]; exact (R.sets.blk k B h).2⟩
  inj:=R.sets.inj }
 dK:=λk B h=>⟨(R.dK k B h).1,by rw [hw.size]; exact (R.dK k B h).2⟩
 gu:=λk B h=>⟨(R.gu k B h).1,by rw [hw.size]; exact (R.gu k B h).2⟩
 je:=R.je
 kS:=R.kS
 sU:=R.sU
theorem qF {P:Program} {st:St}:∀ {Ds:List Nat} {a:Act} {w:World},Rel cx st m a w->Marks cx w a.defers Ds->
 ∃ w',Rel cx st m { a with defers:=[] } w'/\jI cx.w0.heap.size w w'/\(∀ (B:Nat) (o:Obj),B∉Ds->w.heap[B]? =some o->w'.heap[B]? =some o)/\
  ∀ {F:Fence} {n:Nat} {fn:Func} {R:Ending->World->Prop},(∃ v,(results fn a.tmps).run P w'= .ok v w'/\R (.returned v) w')->LeavesInM F n P fn a.tmps R a.defers .returning w
 | [],a,w,R,hm=>by
  have e:a.defers=[]:=hm.eq
  refine ⟨w,?_,.refl _ _,λ_ _ _ h=>h,λh=> ?_⟩
  ·have:({ a with defers:=[] }:Act)=a:=by cases a; simp only at e; rw [e]
   rw [this]; exact R
  ·rw [e]; exact h
 | D::Ds,a,w,R,hm=>by
  have hD:=hm.here D (List.mem_cons_self ..)
  have hlo:=hm.lo D (List.mem_cons_self ..)
  have hnd:=List.nodup_cons.1 hm.nodup
  have hput:jI cx.w0.heap.size w (w.putObj D (.deferred none)):=jI.put _ hD ⟨λ_ _ _ e=>(by cases e),λ_ _ e=>(by cases e)⟩ hlo
  have hoth:∀ B,B≠D->(w.putObj D (.deferred none)).heap[B]? =w.heap[B]? :=λB h=>World.putObj_heap_other h
  have hm':Marks cx (w.putObj D (.deferred none)) (Ds.map mark) Ds:=
   ⟨rfl,hnd.2,λE hE=>hm.lo E (List.mem_cons_of_mem _ hE),λE hE=>by rw [hoth E (λe=>hnd.1 (e▸hE))]; exact hm.here E (List.mem_cons_of_mem _ hE),
    λE hE p hp=>hm.own E (List.mem_cons_of_mem _ hE) p hp⟩
  have R':Rel cx st m { a with defers:=Ds.map mark } (w.putObj D (.deferred none)):=by
   refine Rel.vG (a':= { a with defers:=Ds.map mark }) R hput (nt:=cx.nt) (fG:=cx.fG) (recs:=cx.recs) (sl:=st.sl) (Ds:=Ds) hm' (λp hp=> ?_) R.nt R.slots R.fG
   obtain ⟨g1,g2,g3⟩:=R.recs p hp
   exact ⟨g1,by rw [hoth p.1 (hm.own D (List.mem_cons_self ..) p hp)]; exact g2,g3⟩
  obtain ⟨w',h1,h2,h3,h4⟩:=qF (Ds:=Ds) (a:= { a with defers:=Ds.map mark }) R' hm'
  refine ⟨w',h1,hput.trans h2,λB o hB ho=> ?_,λh=> ?_⟩
  ·simp only [List.mem_cons,not_or] at hB
   exact h3 B o hB.2 (by rw [hoth B hB.1]; exact ho)
  rw [hm.eq,List.map_cons]
  exact ⟨by simp,.inl ⟨D,_,rfl,run_takeDeferred hD,h4 h⟩⟩
end
end Go.dR

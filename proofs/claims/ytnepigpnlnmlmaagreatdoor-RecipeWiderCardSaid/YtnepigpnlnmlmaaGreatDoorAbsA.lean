import Derived.Calls
import Derived.Laws.Sem
import Derived.Laws.Append
import Derived.Laws.MakeOwn
import Derived.Laws.Rows
import Derived.Laws.StructEq
import Derived.Laws.Slices
set_option linter.unusedVariables false
set_option linter.unusedSimpArgs false
namespace Go.dR
inductive D where
 | undef
 | int (k:IntKind) (n:Int)
 | bool (b:Bool)
 | str (s:ByteArray)
 | err (b:Bool)
 | sl (s n:Nat) (get:Nat->List D)
 | pt (b:Bool) (l:List D)
 | nl
 | fn (f:Nat)
instance:Inhabited D:=⟨.undef⟩
def D.stride:D->Nat | .sl s _ _=>s | _=>0
def D.len:D->Nat | .sl _ n _=>n | _=>0
def D.nth:D->Nat->List D | .sl _ _ g,i=>g i | _,_=>[]
def D.cu:D->Bool | .sl _ _ _=>true | _=>false
def splice {α:Type} (l:List α) (o:Nat) (ys:List α):List α:=
 l.take o++ys++l.drop (o+ys.length)
def D.app (x:D) (c:List D):D:= .sl x.stride (x.len+1) (λi=>if i=x.len then c else x.nth i)
def D.setAt (x:D) (i o:Nat) (c:List D):D:= .sl x.stride x.len (λj=>if j=i then splice (x.nth i) o c else x.nth j)
def D.rep (s n:Nat) (c:List D):D:= .sl s n (λ_=>c)
def D.ofList (s:Nat) (l:List (List D)):D:= .sl s l.length (λi=>l.getD i [])
def D.sub (x:D) (lo hi:Nat):D:= .sl x.stride (hi - lo) (λi=>x.nth (lo+i))
def D.cat (x y:D):D:= .sl x.stride (x.len+y.len) (λi=>if i<x.len then x.nth i else y.nth (i - x.len))
inductive Cap where
 | ref (b off:Nat)
 | dM (l:List D) (off:Nat)
inductive AC where
 | undef
 | d (x:D)
 | dF
 | own (k:Nat)
 | ref (b off:Nat)
 | iE (k i off:Nat)
 | dM (l:List D) (off:Nat)
 | clo (f:Nat) (caps:List Cap)
 | Yw (l:Nat)
 | bnd (f:Nat) (l:List D)
 | X8 (x:D)
 | glob (g off:Nat)
 | xg (b off n s:Nat)
instance:Inhabited AC:=⟨.undef⟩
inductive AU where
 | c (x:AC)
 | agg (l:List AC)
instance:Inhabited AU:=⟨.c .undef⟩
inductive AV where
 | u (x:AU)
 | Jy (l:List AU)
 | cnd (b:Bool) (x:AU)
instance:Inhabited AV:=⟨.u (.c .undef)⟩
@[reducible] def AV.c (x:AC):AV:= .u (.c x)
@[reducible] def AV.agg (l:List AC):AV:= .u (.agg l)
inductive MD where
 | keys (x:D)
 | tab (l:List (Nat×Nat×Nat×Nat×Nat))
inductive fE where
 | dead
 | owned (x:D)
 | shared (x:D)
 | deep (x:D)
 | set (x:MD)
def yd (x:D) (j:Nat):D:=(x.nth j).getD 0 .undef
def adH (x:D) (s:ByteArray):Nat->Bool
 | 0=>false
 | n+1=>adH x s n || (match yd x n with | .str t=>decide (s=t) | _=>false)
def UO (x:D) (s:ByteArray):Bool:=adH x s x.len
def Zw (x:D) (i:Nat):List D:=x.nth i
theorem Qc (s:Nat) (l:List (List D)) (i:Nat):Zw (D.ofList s l) i=l.getD i []:=rfl
def D.gK (x:D):D:= .sl x.stride x.len λ_=>[.undef]
def od:Option fE->Option D
 | some (.owned x)=>some x
 | some (.deep x)=>some x.gK
 | _=>none
def lk {α:Type}:List (Nat×α)->Nat->Option α
 | [],_=>none
 | (t,v)::r,k=>if t=k then some v else lk r k
def glb:List (Nat×List Int):=[(0,[1,0,-1,0])]
def ai9:List (Nat×(Array Value->Prop)):=[(2,λc=>c= #[.int .u64 1,.int .u64 10,.int .u64 100,.int .u64 1000,.int .u64 10000,.int .u64 100000,.int .u64 1000000,.int .u64 10000000,.int .u64 100000000,.int .u64 1000000000,.int .u64 10000000000,.int .u64 100000000000,.int .u64 1000000000000,.int .u64 10000000000000,.int .u64 100000000000000,.int .u64 1000000000000000,.int .u64 10000000000000000,.int .u64 100000000000000000,.int .u64 1000000000000000000,.int .u64 10000000000000000000]),(3,λc=>∃ m,c[0]? =some (.int .i64 m)),(6,λc=>∃ t v,c[0]? =some (.iface t v)),(7,λc=>∃ t v,c[0]? =some (.iface t v))]
def ahl:List (Nat×List ByteArray):=[(1,[⟨#[104,101,97,116]⟩,⟨#[100,119,101,108,108]⟩,⟨#[113,117,101,110,99,104]⟩,⟨#[117,110,116,105,108]⟩,⟨#[99,111,111,108]⟩,⟨#[114,101,112,101,97,116]⟩])]
def aj0 (l:List ByteArray) (c:Array Value):Prop:=∀ j,j<l.length->c[j]? =some (.string (l.getD j .empty))
def awJ:List (Nat×(Array Value->Prop)):=ai9++ahl.map λp=>(p.1,aj0 p.2)
structure St where
 sl:List (Nat×AV)
 bx:List (Nat×List AC)
 lb:List (Nat×fE)
inductive Wr where
 | box (b:Nat) (c:List AC)
 | lab (k:Nat) (l:fE)
structure Out where
 nO:Prop
 dst:AV
 wr:List Wr
def Wr.put (st:St):Wr->St
 | .box b c=> { st with bx:=(b,c)::st.bx }
 | .lab k l=> { st with lb:=(k,l)::st.lb }
def bK (st:St):List Wr->St
 | []=>st
 | x::r=>bK (x.put st) r
def St.slot (st:St) (t:Nat) (v:AV):St:= { st with sl:=(t,v)::st.sl }
def St.done (st:St) (dst:Option Nat) (o:Out):St:=
 match dst with
 | some t=>(bK st o.wr).slot t o.dst
 | none=>bK st o.wr
inductive Rd (α:Type) where
 | ret (a:α)
 | slot (t:Nat) (k:AV->Rd α)
 | box (b:Nat) (k:Option (List AC)->Rd α)
 | lab (l:Nat) (k:Option fE->Rd α)
inductive wC where
 | slot (t:Nat) | box (b:Nat) | lab (l:Nat)
 deriving DecidableEq
def Rd.run {α:Type} (st:St):Rd α->α
 | .ret a=>a
 | .slot t k=>(k ((lk st.sl t).getD default)).run st
 | .box b k=>(k (lk st.bx b)).run st
 | .lab l k=>(k (lk st.lb l)).run st
def Rd.log {α:Type} (st:St):Rd α->List wC
 | .ret _=>[]
 | .slot t k=> .slot t::(k ((lk st.sl t).getD default)).log st
 | .box b k=> .box b::(k (lk st.bx b)).log st
 | .lab l k=> .lab l::(k (lk st.lb l)).log st
inductive Arg where
 | c (x:D)
 | agg (l:List D)
 | ptr (l:List D)
 | clo (f:Nat) (caps:List (List D))
inductive RC where
 | d (x:D)
 | own (x:D)
inductive RV where
 | c (x:RC)
 | agg (l:List RC)
structure fO where
 pre:List Arg->Prop
 res:List Arg->List RV
 alias:Bool
abbrev qj:=Nat->Option fO
def byteAt (s:ByteArray) (i:Nat):Int:=((s.data[i]?.getD 0).toNat:Int)
def Dn:Value->AC
 | .int k n=> .d (.int k n)
 | .bool b=> .d (.bool b)
 | .string s=> .d (.str s)
 | .nilIface=> .d (.err false)
 | .slice none 0 0=> .dF
 | .pointer none=> .d (.pt false [])
 | _=> .undef
def ofValue:Value->AV
 | .agg cs=> .agg (cs.toList.map Dn)
 | v=> .c (Dn v)
def AU.cells:AU->List AC
 | .c x=>[x]
 | .agg l=>l
end Go.dR
set_option linter.unusedVariables false
set_option linter.unusedSimpArgs false
namespace Go.dR
def One (v:Value):Prop:=v.cells= #[v]/\v.oneCell'=true
inductive RD (w:World) (S:Nat->Prop):D->Value->Prop
 | undef (v) (h:One v):RD w S .undef v
 | int (k n):RD w S (.int k n) (.int k n)
 | bool (b):RD w S (.bool b) (.bool b)
 | str (s):RD w S (.str s) (.string s)
 | Vk:RD w S (.err false) .nilIface
 | DK (t v):RD w S (.err true) (.iface t v)
 | sl0 (s g ao cap):RD w S (.sl s 0 g) (.slice ao 0 cap)
 | nl:RD w S .nl (.slice none 0 0)
 | fn (f):RD w S (.fn f) (.func (.func f) #[] #[])
 | sl (s n g) (B o cap:Nat) (f:Nat->Nat->Value) (hn:0<n) (hcap:n<=cap) (hB:B<w.heap.size) (hS:S B)
  (hl:∀ i,i<n->(g i).length=s)
  (hc:∀ i j,i<n->j<s->w.cell? ⟨B,o+(i*s+j),none⟩=some (f i j))
  (hr:∀ i j,i<n->j<s->RD w S ((g i).getD j .undef) (f i j)):RD w S (.sl s n g) (.slice (some ⟨B,o,none⟩) n cap)
 | rO (l):RD w S (.pt false l) (.pointer none)
 | ptr (l) (B o:Nat) (f:Nat->Value) (hB:B<w.heap.size) (hS:S B) (hc:∀ j,j<l.length->w.cell? ⟨B,o+j,none⟩=some (f j))
  (hr:∀ j,j<l.length->RD w S (l.getD j .undef) (f j)):RD w S (.pt true l) (.pointer (some ⟨B,o,none⟩))
structure Ext (w w':World) (S S':Nat->Prop):Prop where
 size:w.heap.size<=w'.heap.size
 same:∀ B,B<w.heap.size->S B->w'.heap[B]? =w.heap[B]?
 sub:∀ B,B<w.heap.size->S B->S' B
theorem cell_of_heap {w w':World} {B:Nat} (h:w'.heap[B]? =w.heap[B]?) (o:Nat):w'.cell? ⟨B,o,none⟩=w.cell? ⟨B,o,none⟩:=by
 simp [World.cell?,h]
theorem RD.ext {w w':World} {S S':Nat->Prop} (h:Ext w w' S S') {d:D} {v:Value} (hd:RD w S d v):RD w' S' d v:=by
 induction hd with
 | undef v h=>exact .undef v h
 | int k n=>exact .int k n
 | bool b=>exact .bool b
 | str s=>exact .str s
 | Vk=>exact .Vk
 | DK t v=>exact .DK t v
 | sl0 s g ao cap=>exact .sl0 s g ao cap
 | nl=>exact .nl
 | fn f=>exact .fn f
 | sl s n g B o cap f hn hcap hB hS hl hc hr ih=>
  refine .sl s n g B o cap f hn hcap (Nat.lt_of_lt_of_le hB h.size) (h.sub B hB hS) hl (λi j hi hj=> ?_) ih
  rw [cell_of_heap (h.same B hB hS)]; exact hc i j hi hj
 | rO l=>exact .rO l
 | ptr l B o f hB hS hc hr ih=>
  refine .ptr l B o f (Nat.lt_of_lt_of_le hB h.size) (h.sub B hB hS) (λj hj=> ?_) ih
  rw [cell_of_heap (h.same B hB hS)]; exact hc j hj
def uw (w:World):Prop:=(∀ g l,(g,l)∈glb->∃ c T,w.heap[g]? =some (.cells c T (0,0))/\∀ j,j<l.length->c[j]? =some (.int .i64 (l.getD j 0)))/\
 ∀ g p,(g,p)∈awJ->∃ c T z,w.heap[g]? =some (.cells c T z)/\p c
theorem uw.old {w w':World} (h:uw w) (k:∀ B,B<w.heap.size->w'.heap[B]? =w.heap[B]?):uw w':=
 ⟨λg l hg=>by
  obtain ⟨c,T,h1,h2⟩:=h.1 g l hg
  exact ⟨c,T,by rw [k g (Array.getElem?_eq_some_iff.1 h1).1]; exact h1,h2⟩,
  λg p hg=>by
   obtain ⟨c,T,z,h1,h2⟩:=h.2 g p hg
   exact ⟨c,T,z,by rw [k g (Array.getElem?_eq_some_iff.1 h1).1]; exact h1,h2⟩⟩
structure Cx where
 S0:Nat->Prop
 w0:World
 glob:uw w0
 nt:Nat
 fG:List (AV×Value):=[]
 recs:List (Nat×Obj):=[]
structure Mp where
 own:Nat->Option Nat
 box:Nat->Option Nat
 inn:Nat->Nat->Option Nat
 mp:Nat->Option Nat
def fP (cx:Cx) (m:Mp) (B:Nat):Prop:=
 (cx.S0 B\/cx.w0.heap.size<=B)/\(∀ k,m.own k≠some B)/\(∀ b,m.box b≠some B)/\(∀ k j,m.inn k j≠some B)
def Ptr (w:World) (S:Nat->Prop) (l:List D) (off:Nat) (v:Value):Prop:=
 ∃ B o,v= .pointer (some ⟨B,o+off,none⟩)/\B<w.heap.size/\S B/\
  ∀ j,j<l.length->∃ u,w.cell? ⟨B,o+j,none⟩=some u/\RD w S (l.getD j .undef) u
theorem Ptr.ext {w w':World} {S S':Nat->Prop} (h:Ext w w' S S') {l:List D} {off:Nat} {v:Value} (hp:Ptr w S l off v):Ptr w' S' l off v:=by
 obtain ⟨B,o,rfl,hB,hS,hc⟩:=hp
 refine ⟨B,o,rfl,Nat.lt_of_lt_of_le hB h.size,h.sub B hB hS,λj hj=> ?_⟩
 obtain ⟨u,hu,hr⟩:=hc j hj
 exact ⟨u,by rw [cell_of_heap (h.same B hB hS)]; exact hu,hr.ext h⟩
theorem FX {w:World} {S:Nat->Prop} {l:List D} {v:Value}:RD w S (.pt true l) v↔Ptr w S l 0 v:=by
 constructor
 ·intro h
  cases h with
  | ptr l B o f hB hS hc hr=>exact ⟨B,o,rfl,hB,hS,λj hj=>⟨f j,hc j hj,hr j hj⟩⟩
 rintro ⟨B,o,rfl,hB,hS,hc⟩
 refine .ptr l B o (λj=>(w.cell? ⟨B,o+j,none⟩).getD undef) hB hS (λj hj=> ?_) (λj hj=> ?_)
 ·obtain ⟨u,hu,_⟩:=hc j hj; simp [hu]
 obtain ⟨u,hu,hr⟩:=hc j hj; simpa [hu] using hr
def Row (w:World) (S:Nat->Prop) (B:Nat) (x:D):Prop:=
 ∃ c T,w.heap[B]? =some (.cells c T (0,0))/\x.cu=true/\
  ∀ i,i<x.len->(x.nth i).length=x.stride/\∀ j,j<x.stride->∃ u,c[i*x.stride+j]? =some u/\RD w S ((x.nth i).getD j .undef) u
theorem Row.ext {w w':World} {S S':Nat->Prop} (h:Ext w w' S S') {B:Nat} (hB:w'.heap[B]? =w.heap[B]?) {x:D} (hr:Row w S B x):Row w' S' B x:=by
 obtain ⟨c,T,hc,hs,hx⟩:=hr
 refine ⟨c,T,by rw [hB]; exact hc,hs,λi hi=>⟨(hx i hi).1,λj hj=> ?_⟩⟩
 obtain ⟨u,hu,hd⟩:=(hx i hi).2 j hj
 exact ⟨u,hu,hd.ext h⟩
def nN (w:World) (own:Option Nat) (x:D) (v:Value):Prop:=
 match own with
 | none=>v= .slice none 0 0/\x.len=0
 | some B=>∃ cap c T,v= .slice (some ⟨B,0,none⟩) x.len cap/\w.heap[B]? =some (.cells c T (0,0))/\c.size=cap*x.stride/\x.len<=cap
def Dj (cx:Cx) (m:Mp) (w:World):Cap->Value->Prop
 | .ref b off,v=>∃ B,m.box b=some B/\v= .pointer (some ⟨B,off,none⟩)
 | .dM l off,v=>Ptr w (fP cx m) l off v
def fD (cx:Cx) (m:Mp) (w:World) (lb:Nat->Option fE):AC->Value->Prop
 | .undef,_=>True
 | .d x,v=>RD w (fP cx m) x v
 | .dF,v=>v= .slice none 0 0
 | .own k,v=>
  match lb k with
  | none=>False
  | some .dead=>One v
  | some (.shared x)=>x.cu=true/\RD w (fP cx m) x v
  | some (.owned x)=>nN w (m.own k) x v
  | some (.deep x)=>nN w (m.own k) x v
  | some (.set _)=>∃ B,m.mp k=some B/\v= .map (some B)
 | .ref b off,v=>∃ B,m.box b=some B/\v= .pointer (some ⟨B,off,none⟩)
 | .iE k i off,v=>
  match lb k with
  | none=>False
  | some .dead=>One v
  | some (.shared x)=>i<x.len/\(x.nth i).length=x.stride/\Ptr w (fP cx m) (x.nth i) off v
  | some (.owned x)=>i<x.len/\∃ B,m.own k=some B/\v= .pointer (some ⟨B,i*x.stride+off,none⟩)
  | some (.deep x)=>i<x.len/\∃ B,m.own k=some B/\v= .pointer (some ⟨B,i*x.stride+off,none⟩)
  | some (.set _)=>False
 | .dM l off,v=>Ptr w (fP cx m) l off v
 | .clo f caps,v=>∃ vs,v= .func (.func f) #[] vs/\vs.size=caps.length/\∀ i,i<caps.length->∃ u,vs[i]? =some u/\Dj cx m w (caps.getD i (.ref 0 0)) u
 | .Yw l,v=>v= .func (.yield l) #[] #[]
 | .X8 x,v=>x.cu=true/\RD w (fP cx m) x v/\∃ b,v= .slice b x.len x.len
 | .glob g off,v=>v= .pointer (some ⟨g,off,none⟩)
 | .xg b off n _,v=>∃ B cap,m.box b=some B/\n<=cap/\v= .slice (some ⟨B,off,none⟩) n cap
 | .bnd f l,v=>∃ us,v= .func (.func f) #[.agg us] #[]/\us.size=l.length/\∀ i,i<l.length->∃ u,us[i]? =some u/\RD w (fP cx m) (l.getD i .undef) u
def RU (cx:Cx) (m:Mp) (w:World) (lb:Nat->Option fE):AU->Value->Prop
 | .c x,v=>fD cx m w lb x v
 | .agg l,v=>∃ vs,v= .agg vs/\vs.size=l.length/\∀ i,i<l.length->∃ u,vs[i]? =some u/\fD cx m w lb (l.getD i .undef) u
def RA (cx:Cx) (m:Mp) (w:World) (lb:Nat->Option fE):AV->Value->Prop
 | .u x,v=>RU cx m w lb x v
 | .Jy l,v=>∃ vs,v= .tuple vs/\vs.size=l.length/\∀ i,i<l.length->∃ u,vs[i]? =some u/\RU cx m w lb (l.getD i (.c .undef)) u
 | .cnd b x,v=>(b=true->RU cx m w lb x v)/\(b=false->v=undef)
def dS (w w':World):Prop:=w'.os=w.os/\w'.tape=w.tape/\w'.output=w.output
theorem dS.refl (w:World):dS w w:=⟨rfl,rfl,rfl⟩
theorem dS.trans {a b c:World} (h:dS a b) (k:dS b c):dS a c:=⟨k.1.trans h.1,k.2.1.trans h.2.1,k.2.2.trans h.2.2⟩
def ay1 (o:Obj):Prop:=∀ c T z,o≠ .cells c T z
def oP (o:Obj):Prop:=ay1 o/\∀ es c,o≠ .map es c
def gV (w w':World):Prop:=∀ (B:Nat) (o:Obj),w.heap[B]? =some o->ay1 o->w'.heap[B]? =some o
theorem gV.refl (w:World):gV w w:=λ_ _ h _=>h
theorem gV.trans {a b c:World} (h:gV a b) (k:gV b c):gV a c:=λB o h1 h2=>k B o (h B o h1 h2) h2
theorem gV.grow {w w':World} (h:∀ B,B<w.heap.size->w'.heap[B]? =w.heap[B]?):gV w w':=λB o h1 _=>by
 rw [h B (Array.getElem?_eq_some_iff.1 h1).1]; exact h1
theorem gV.one {w w':World} {B:Nat} {c:Array Value} {T:TypeId} {z:Nat×Nat} (hB:w.heap[B]? =some (.cells c T z)) (h:∀ B',B'≠B->w'.heap[B']? =w.heap[B']?):gV w w':=λB' o h1 h2=>by
 by_cases e:B'=B
 ·subst e; rw [hB] at h1; exact absurd (Option.some.inj h1).symm (h2 _ _ _)
 rw [h B' e]; exact h1
def mark (D:Nat):Deferred:= { target:= .collected D,args:= #[] }
structure Marks (cx:Cx) (w:World) (ds:List Deferred) (Ds:List Nat):Prop where
 eq:ds=Ds.map mark
 nodup:Ds.Nodup
 lo:∀ D∈Ds,cx.w0.heap.size<=D
 here:∀ D∈Ds,w.heap[D]? =some (.deferred (some []))
 own:∀ D∈Ds,∀ p∈cx.recs,p.1≠D
theorem Marks.keeps {cx:Cx} {w w':World} {ds:List Deferred} {Ds:List Nat} (h:Marks cx w ds Ds) (k:gV w w'):Marks cx w' ds Ds:=
 { h with here:=λD hD=>k D _ (h.here D hD) (λ_ _ _ e=>by cases e) }
def Oz (m:Mp) (w:World) (S:Nat->Prop) (k:Nat) (x:D) (j:Nat):Prop:=
 (yd x j= .undef/\m.inn k j=none)\/
 ((yd x j).cu=true/\(∃ B u,m.own k=some B/\w.cell? ⟨B,j,none⟩=some u/\nN w (m.inn k j) (yd x j) u)/\∀ B,m.inn k j=some B->Row w S B (yd x j))
structure Lj (cx:Cx) (lb:Nat->Option fE) (m:Mp) (w:World):Prop where
 ok:∀ k x,lb k=some (.deep x)->x.cu=true/\x.stride=1/\∀ j,j<x.len->(x.nth j).length=1/\Oz m w (fP cx m) k x j
 only:∀ k j B,m.inn k j=some B->∃ x,lb k=some (.deep x)/\j<x.len
 blk:∀ k j B,m.inn k j=some B->cx.w0.heap.size<=B/\B<w.heap.size
 inj:∀ k j k' j' B,m.inn k j=some B->m.inn k' j'=some B->k=k'/\j=j'
 own:∀ k j k' B,m.inn k j=some B->m.own k'≠some B
 box:∀ k j b B,m.inn k j=some B->m.box b≠some B
def Yr (w:World) (B:Nat) (x:D):Prop:=
 ∃ es c,w.heap[B]? =some (.map es c)/\(∀ e∈es.toList,(∃ s,e.key= .string s)/\e.val= .bool true)/\∀ s,(∃ e∈es.toList,e.key= .string s)↔∃ i,i<x.len/\yd x i= .str s
def TabAt (cx:Cx) (m:Mp) (w:World) (lb:Nat->Option fE) (B:Nat) (l:List (Nat×Nat×Nat×Nat×Nat)):Prop:=
 ∃ es c,w.heap[B]? =some (.map es c)/\(∀ e∈es.toList,∃ (k b off n s:Nat),e.key= .int .i64 (k:Int)/\lk l k=some (b,off,n,s)/\fD cx m w lb (.xg b off n s) e.val)/\
  ∀ k x,lk l k=some x->∃ e∈es.toList,e.key= .int .i64 (k:Int)
def MapAt (cx:Cx) (m:Mp) (w:World) (lb:Nat->Option fE) (B:Nat):MD->Prop
 | .keys x=>x.cu=true/\Yr w B x
 | .tab l=>TabAt cx m w lb B l
structure Sets (cx:Cx) (lb:Nat->Option fE) (m:Mp) (w:World):Prop where
 ok:∀ k x,lb k=some (.set x)->∃ B,m.mp k=some B/\MapAt cx m w lb B x
 blk:∀ k B,m.mp k=some B->cx.w0.heap.size<=B/\B<w.heap.size
 inj:∀ k k' B,m.mp k=some B->m.mp k'=some B->k=k'
theorem MapAt.keep {cx X3:Cx} {m m':Mp} {w w':World} {lb lb':Nat->Option fE} {B:Nat} {M:MD} (h:MapAt cx m w lb B M) (hb:∀ es c,w.heap[B]? =some (.map es c)->w'.heap[B]? =some (.map es c)) (hr:∀ x v,fD cx m w lb x v->fD X3 m' w' lb' x v):MapAt X3 m' w' lb' B M:=by
 cases M with
 | keys x=>obtain ⟨h0,es,c,h1,h2⟩:=h; exact ⟨h0,es,c,hb _ _ h1,h2⟩
 | tab l=>
  obtain ⟨es,c,h1,h2,h3⟩:=h
  refine ⟨es,c,hb _ _ h1,λe he=> ?_,h3⟩
  obtain ⟨k,b,off,n,s,e1,e2,e3⟩:=h2 e he
  exact ⟨k,b,off,n,s,e1,e2,hr _ _ e3⟩
theorem Sets.keep {cx:Cx} {lb lb':Nat->Option fE} {m m':Mp} {w w':World} (S:Sets cx lb m w) (hmp:m'.mp=m.mp) (hlb:∀ k x,lb' k=some (.set x)->lb k=some (.set x)) (hk:gV w w') (hs:w.heap.size<=w'.heap.size) (hr:∀ x v,fD cx m w lb x v->fD cx m' w' lb' x v):Sets cx lb' m' w' where
 ok:=λk x h=>by
  obtain ⟨B,h1,h2⟩:=S.ok k x (hlb k x h)
  exact ⟨B,by rw [hmp]; exact h1,h2.keep (λes c h=>hk B _ h (λ_ _ _ e=>by cases e)) hr⟩
 blk:=λk B h=>by rw [hmp] at h; exact ⟨(S.blk k B h).1,Nat.lt_of_lt_of_le (S.blk k B h).2 hs⟩
 inj:=by rw [hmp]; exact S.inj
structure Rel (cx:Cx) (st:St) (m:Mp) (a:Act) (w:World):Prop where
 defers:∃ Ds,Marks cx w a.defers Ds
 recs:∀ p,p∈cx.recs->cx.w0.heap.size<=p.1/\w.heap[p.1]? =some p.2/\oP p.2
 nt:a.tmps.size=cx.nt
 env:dS cx.w0 w
 size:cx.w0.heap.size<=w.heap.size
 old:∀ B,B<cx.w0.heap.size->w.heap[B]? =cx.w0.heap[B]?
 s0:∀ B,cx.S0 B->B<cx.w0.heap.size
 slots:∀ t v,lk st.sl t=some v->t<cx.nt/\RA cx m w (lk st.lb) v (a.tmps.getD t undef)
 fG:∀ p,p∈cx.fG->RA cx m w (lk st.lb) p.1 p.2
 boxes:∀ b cs,lk st.bx b=some cs->∃ B c T,m.box b=some B/\w.heap[B]? =some (.cells c T (0,0))/\c.size=cs.length/\
  ∀ j,j<cs.length->∃ u,c[j]? =some u/\fD cx m w (lk st.lb) (cs.getD j .undef) u
 gI:∀ b,lk st.bx b=none->m.box b=none
 nG:∀ k x,od (lk st.lb k)=some x->x.cu=true/\∀ B,m.own k=some B->Row w (fP cx m) B x
 gX:∀ k,od (lk st.lb k)=none->m.own k=none
 bn:Lj cx (lk st.lb) m w
 sets:Sets cx (lk st.lb) m w
 dK:∀ k B,m.own k=some B->cx.w0.heap.size<=B/\B<w.heap.size
 gu:∀ b B,m.box b=some B->cx.w0.heap.size<=B/\B<w.heap.size
 je:∀ k k' B,m.own k=some B->m.own k'=some B->k=k'
 kS:∀ b b' B,m.box b=some B->m.box b'=some B->b=b'
 sU:∀ k b B,m.own k=some B->m.box b≠some B
theorem Rel.owned {cx:Cx} {st:St} {m:Mp} {a:Act} {w:World} (R:Rel cx st m a w) (k:Nat) (x:D) (h:lk st.lb k=some (.owned x)):x.cu=true/\∀ B,m.own k=some B->Row w (fP cx m) B x:=
 R.nG k x (by rw [h]; rfl)
theorem Rel.zZ {cx:Cx} {st:St} {m:Mp} {a:Act} {w:World} (R:Rel cx st m a w) (k:Nat) (h:lk st.lb k=none):m.own k=none:=
 R.gX k (by rw [h]; rfl)
theorem nN.same {w w':World} {o:Option Nat} {x:D} {v:Value} (h:nN w o x v) (g:∀ B,o=some B->w'.heap[B]? =w.heap[B]?):nN w' o x v:=by
 unfold nN at h ⊢
 cases o with
 | none=>exact h
 | some B=>
  obtain ⟨cap,c,T,q1,q2,q3,q4⟩:=h
  exact ⟨cap,c,T,q1,by rw [g B rfl]; exact q2,q3,q4⟩
theorem Lj.keep {cx:Cx} {lb lb':Nat->Option fE} {m m':Mp} {w w':World} (D:Lj cx lb m w) (jv:m'.inn=m.inn)
 (hlb:∀ k x,lb' k=some (.deep x)↔lb k=some (.deep x)) (hown:∀ k x,lb k=some (.deep x)->m'.own k=m.own k)
 (hext:Ext w w' (fP cx m) (fP cx m')) (hb:∀ k x B,lb k=some (.deep x)->m.own k=some B->w'.heap[B]? =w.heap[B]?)
 (hi:∀ k j B,m.inn k j=some B->w'.heap[B]? =w.heap[B]?)
 (how:∀ k B,m'.own k=some B->(∃ k',m.own k'=some B)\/w.heap.size<=B)
 (hbx:∀ b B,m'.box b=some B->(∃ b',m.box b'=some B)\/w.heap.size<=B):Lj cx lb' m' w' where
 ok:=λk x hk=>by
  have hk0:=(hlb k x).1 hk
  obtain ⟨h1,h2,h3⟩:=D.ok k x hk0
  refine ⟨h1,h2,λj hj=>⟨(h3 j hj).1,?_⟩⟩
  have e0:m'.inn k j=m.inn k j:=by rw [jv]
  rcases (h3 j hj).2 with ⟨g1,g2⟩ | ⟨g1,⟨B,u,g2,g3,g4⟩,g5⟩
  ·exact .inl ⟨g1,by rw [e0]; exact g2⟩
  refine .inr ⟨g1,⟨B,u,by rw [hown k x hk0]; exact g2,by rw [cell_of_heap (hb k x B hk0 g2)]; exact g3,?_⟩,λB' hB'=> ?_⟩
  ·rw [e0]; exact g4.same (λB' h=>hi k j B' h)
  rw [e0] at hB'; exact (g5 B' hB').ext hext (hi k j B' hB')
 only:=λk j B h=>by
  rw [jv] at h
  obtain ⟨x,h1,h2⟩:=D.only k j B h
  exact ⟨x,(hlb k x).2 h1,h2⟩
 blk:=λk j B h=>by
  rw [jv] at h
  exact ⟨(D.blk k j B h).1,Nat.lt_of_lt_of_le (D.blk k j B h).2 hext.size⟩
 inj:=by rw [jv]; exact D.inj
 own:=λk j k' B h h'=>by
  rw [jv] at h
  rcases how k' B h' with ⟨k2,h2⟩ | h2
  ·exact D.own k j k2 B h h2
  have:=(D.blk k j B h).2; omega
 box:=λk j b B h h'=>by
  rw [jv] at h
  rcases hbx b B h' with ⟨b2,h2⟩ | h2
  ·exact D.box k j b2 B h h2
  have:=(D.blk k j B h).2; omega
end Go.dR
set_option linter.unusedVariables false
set_option linter.unusedSimpArgs false
namespace Go.dR
theorem D.eta {x:D} (h:x.cu=true):x= .sl x.stride x.len x.nth:=by
 cases x<;>first | rfl | (simp [D.cu] at h)
def qh (w w':World) (B:Nat):Prop:=
 ∀ c T,w.heap[B]? =some (.cells c T (0,0))->∃ c',w'.heap[B]? =some (.cells c' T (0,0))/\c'.size=c.size
theorem qh.of_eq {w w':World} {B:Nat} (h:w'.heap[B]? =w.heap[B]?):qh w w' B:=λc T hc=>⟨c,by rw [h]; exact hc,rfl⟩
def fZ (cx:Cx) (m:Mp) (w:World) (lb:Nat->Option fE) (m':Mp) (w':World) (lb':Nat->Option fE) (k:Nat):Prop:=
 match lb k with
 | none=>True
 | some .dead=>lb' k=some .dead
 | some (.shared x)=>lb' k=some .dead\/lb' k=some (.shared x)
 | some (.owned x)=>lb' k=some .dead\/
  (∃ x',od (lb' k)=some x'/\x'.len=x.len/\x'.stride=x.stride/\m'.own k=m.own k/\∀ B,m.own k=some B->qh w w' B)\/
  (lb' k=some (.shared x)/\x.cu=true/\∀ B,m.own k=some B->Row w' (fP cx m') B x/\fP cx m' B/\B<w'.heap.size)
 | some (.deep x)=>lb' k=some .dead\/
  (∃ x',od (lb' k)=some x'/\x'.len=x.len/\x'.stride=x.stride/\m'.own k=m.own k/\∀ B,m.own k=some B->qh w w' B)\/
  (lb' k=some (.shared x)/\x.cu=true/\∀ B,m.own k=some B->Row w' (fP cx m') B x/\fP cx m' B/\B<w'.heap.size)
 | some (.set x)=>lb' k=some .dead\/∃ x',lb' k=some (.set x')/\m'.mp k=m.mp k
structure Move (cx:Cx) (m:Mp) (w:World) (lb:Nat->Option fE) (m':Mp) (w':World) (lb':Nat->Option fE):Prop where
 ext:Ext w w' (fP cx m) (fP cx m')
 box:∀ b B,m.box b=some B->m'.box b=some B
 lab:∀ k,fZ cx m w lb m' w' lb' k
theorem zX {L:Option fE} {x:D} (h:od L=some x):L=some (.owned x)\/∃ z,L=some (.deep z)/\x=z.gK:=by
 unfold od at h
 split at h
 ·obtain rfl:=Option.some.inj h; exact .inl rfl
 ·rename_i z; obtain rfl:=Option.some.inj h; exact .inr ⟨z,rfl,rfl⟩
 cases h
theorem Xk {w:World} {S:Nat->Prop} {B:Nat} {x:D} (hr:Row w S B x) (hS:S B) (hB:B<w.heap.size) {i:Nat} (hi:i<x.len) (off:Nat) :
 Ptr w S (x.nth i) off (.pointer (some ⟨B,i*x.stride+off,none⟩)):=by
 obtain ⟨c,T,hc,hs,hx⟩:=hr
 refine ⟨B,i*x.stride,rfl,hB,hS,λj hj=> ?_⟩
 rw [(hx i hi).1] at hj
 obtain ⟨u,hu,hd⟩:=(hx i hi).2 j hj
 exact ⟨u,by simp [World.cell?,hc,hu],hd⟩
theorem yx {w:World} {S:Nat->Prop} {B:Nat} {x:D} (hr:Row w S B x) (hS:S B) (hB:B<w.heap.size) {cap:Nat} (hle:x.len<=cap) :
 RD w S x (.slice (some ⟨B,0,none⟩) x.len cap):=by
 obtain ⟨c,T,hc,hs,hx⟩:=hr
 by_cases hn:x.len=0
 ·have he:=D.eta hs
  generalize x.stride=s at he; generalize x.nth=g at he
  rw [hn] at he ⊢
  rw [he]; exact .sl0 _ _ _ _
 have he:=D.eta hs
 suffices h:RD w S (.sl x.stride x.len x.nth) (.slice (some ⟨B,0,none⟩) x.len cap) by rw [<- he] at h; exact h
 refine .sl _ _ _ B 0 cap (λi j=>c.getD (i*x.stride+j) undef) (Nat.pos_of_ne_zero hn) hle hB hS (λi hi=>(hx i hi).1) (λi j hi hj=> ?_) (λi j hi hj=> ?_)
 ·obtain ⟨u,hu,_⟩:=(hx i hi).2 j hj
  simp [World.cell?,hc,Array.getD_eq_getD_getElem?,hu]
 obtain ⟨u,hu,hd⟩:=(hx i hi).2 j hj
 simpa [Array.getD_eq_getD_getElem?,hu] using hd
theorem JG {w:World} {S:Nat->Prop} {x:D} {v:Value} (hs:x.cu=true) (h:RD w S x v):One v:=by
 cases h<;>first | exact ⟨rfl,rfl⟩ | simp [D.cu] at hs
theorem RD.one {w:World} {S:Nat->Prop} {x:D} {v:Value} (h:RD w S x v):One v:=by
 cases h<;>first | exact ⟨rfl,rfl⟩ | assumption
theorem Aj {w:World} {o:Option Nat} {x:D} {v:Value} (h:nN w o x v):One v:=by
 unfold nN at h
 split at h
 ·obtain ⟨rfl,_⟩:=h; exact ⟨rfl,rfl⟩
 obtain ⟨_,_,_,rfl,_⟩:=h; exact ⟨rfl,rfl⟩
variable {cx:Cx} {m m':Mp} {w w':World} {lb lb':Nat->Option fE}
theorem Dj.move (h:Move cx m w lb m' w' lb') {x:Cap} {v:Value} (hx:Dj cx m w x v):Dj cx m' w' x v:=by
 cases x with
 | ref b off=>obtain ⟨B,hb,rfl⟩:=hx; exact ⟨B,h.box b B hb,rfl⟩
 | dM l off=>exact Ptr.ext h.ext hx
theorem fD.move (h:Move cx m w lb m' w' lb') {x:AC} {v:Value} (hx:fD cx m w lb x v):fD cx m' w' lb' x v:=by
 cases x with
 | undef=>trivial
 | d x=>exact RD.ext h.ext hx
 | dF=>exact hx
 | own k=>
  have hk:=h.lab k
  simp only [fD,fZ] at*
  cases hl:lb k with
  | none=>simp [hl] at hx
  | some L=>
   cases L with
   | dead=>simp only [hl] at hk hx; simp [hk,hx]
   | shared y=>
    simp only [hl] at hk hx
    rcases hk with hk | hk<;>simp only [hk]
    ·exact JG hx.1 hx.2
    ·exact ⟨hx.1,hx.2.ext h.ext⟩
   | owned y=>
    simp only [hl] at hk hx
    rcases hk with hk | ⟨x',hk,e1,e2,e3,hs⟩ | ⟨hk,hsl,hr⟩
    ·simp only [hk]; exact Aj hx
    ·have hH:nN w' (m'.own k) x' v:=by
      rw [e3]
      cases ho:m.own k with
      | none=>simp only [ho,nN] at hx ⊢; exact ⟨hx.1,by rw [e1]; exact hx.2⟩
      | some B=>
       simp only [ho,nN] at hx ⊢
       obtain ⟨cap,c,T,rfl,hc,hsz,hle⟩:=hx
       obtain ⟨c',hc',hsz'⟩:=hs B ho c T hc
       exact ⟨cap,c',T,by rw [e1],hc',by rw [hsz',hsz,e2],by rw [e1]; exact hle⟩
     rcases zX hk with q | ⟨z,q,rfl⟩<;>simp only [q]<;>exact hH
    ·simp only [hk]
     refine ⟨hsl,?_⟩
     cases ho:m.own k with
     | none=>
      simp only [ho,nN] at hx
      obtain ⟨rfl,hn⟩:=hx
      rw [D.eta hsl,hn]; exact .sl0 _ _ _ _
     | some B=>
      simp only [ho,nN] at hx
      obtain ⟨cap,c,T,rfl,_,_,hle⟩:=hx
      exact yx (hr B ho).1 (hr B ho).2.1 (hr B ho).2.2 hle
   | deep y=>
    simp only [hl] at hk hx
    rcases hk with hk | ⟨x',hk,e1,e2,e3,hs⟩ | ⟨hk,hsl,hr⟩
    ·simp only [hk]; exact Aj hx
    ·have hH:nN w' (m'.own k) x' v:=by
      rw [e3]
      cases ho:m.own k with
      | none=>simp only [ho,nN] at hx ⊢; exact ⟨hx.1,by rw [e1]; exact hx.2⟩
      | some B=>
       simp only [ho,nN] at hx ⊢
       obtain ⟨cap,c,T,rfl,hc,hsz,hle⟩:=hx
       obtain ⟨c',hc',hsz'⟩:=hs B ho c T hc
       exact ⟨cap,c',T,by rw [e1],hc',by rw [hsz',hsz,e2],by rw [e1]; exact hle⟩
     rcases zX hk with q | ⟨z,q,rfl⟩<;>simp only [q]<;>exact hH
    ·simp only [hk]
     refine ⟨hsl,?_⟩
     cases ho:m.own k with
     | none=>
      simp only [ho,nN] at hx
      obtain ⟨rfl,hn⟩:=hx
      rw [D.eta hsl,hn]; exact .sl0 _ _ _ _
     | some B=>
      simp only [ho,nN] at hx
      obtain ⟨cap,c,T,rfl,_,_,hle⟩:=hx
      exact yx (hr B ho).1 (hr B ho).2.1 (hr B ho).2.2 hle
   | set y=>
    simp only [hl] at hk hx
    obtain ⟨B,h1,rfl⟩:=hx
    rcases hk with hk | ⟨x',hk,e⟩<;>simp only [hk]
    ·exact ⟨rfl,rfl⟩
    ·exact ⟨B,by rw [e]; exact h1,rfl⟩
 | ref b off=>obtain ⟨B,hb,rfl⟩:=hx; exact ⟨B,h.box b B hb,rfl⟩
 | iE k i off=>
  have hk:=h.lab k
  simp only [fD,fZ] at*
  cases hl:lb k with
  | none=>simp [hl] at hx
  | some L=>
   cases L with
   | dead=>simp only [hl] at hk hx; simp [hk,hx]
   | shared y=>
    simp only [hl] at hk hx
    rcases hk with hk | hk<;>simp only [hk]
    ·obtain ⟨_,_,B,o,rfl,_⟩:=hx; exact ⟨rfl,rfl⟩
    ·exact ⟨hx.1,hx.2.1,hx.2.2.ext h.ext⟩
   | owned y=>
    simp only [hl] at hk hx
    obtain ⟨hi,B,ho,rfl⟩:=hx
    rcases hk with hk | ⟨x',hk,e1,e2,e3,hs⟩ | ⟨hk,hsl,hr⟩
    ·simp only [hk]; exact ⟨rfl,rfl⟩
    ·have hH:i<x'.len/\∃ B',m'.own k=some B'/\Value.pointer (some ⟨B,i*y.stride+off,none⟩)= .pointer (some ⟨B',i*x'.stride+off,none⟩):=⟨by rw [e1]; exact hi,B,by rw [e3]; exact ho,by rw [e2]⟩
     rcases zX hk with q | ⟨z,q,rfl⟩<;>simp only [q]<;>exact hH
    ·simp only [hk]
     obtain ⟨hrow,hS,hB⟩:=hr B ho
     refine ⟨hi,?_,Xk hrow hS hB hi off⟩
     obtain ⟨c,T,hc,hs,hx⟩:=hrow
     exact (hx i hi).1
   | deep y=>
    simp only [hl] at hk hx
    obtain ⟨hi,B,ho,rfl⟩:=hx
    rcases hk with hk | ⟨x',hk,e1,e2,e3,hs⟩ | ⟨hk,hsl,hr⟩
    ·simp only [hk]; exact ⟨rfl,rfl⟩
    ·have hH:i<x'.len/\∃ B',m'.own k=some B'/\Value.pointer (some ⟨B,i*y.stride+off,none⟩)= .pointer (some ⟨B',i*x'.stride+off,none⟩):=⟨by rw [e1]; exact hi,B,by rw [e3]; exact ho,by rw [e2]⟩
     rcases zX hk with q | ⟨z,q,rfl⟩<;>simp only [q]<;>exact hH
    ·simp only [hk]
     obtain ⟨hrow,hS,hB⟩:=hr B ho
     refine ⟨hi,?_,Xk hrow hS hB hi off⟩
     obtain ⟨c,T,hc,hs,hx⟩:=hrow
     exact (hx i hi).1
   | set y=>simp only [hl] at hx
 | dM l off=>exact Ptr.ext h.ext hx
 | clo f caps=>
  obtain ⟨vs,rfl,hsz,hc⟩:=hx
  refine ⟨vs,rfl,hsz,λi hi=> ?_⟩
  obtain ⟨u,hu,hr⟩:=hc i hi
  exact ⟨u,hu,hr.move h⟩
 | Yw l=>exact hx
 | X8 x=>exact ⟨hx.1,hx.2.1.ext h.ext,hx.2.2⟩
 | glob g off=>exact hx
 | xg b off n s=>obtain ⟨B,cap,hb,hn,rfl⟩:=hx; exact ⟨B,cap,h.box b B hb,hn,rfl⟩
 | bnd f l=>
  obtain ⟨us,rfl,hsz,hc⟩:=hx
  refine ⟨us,rfl,hsz,λi hi=> ?_⟩
  obtain ⟨u,hu,hr⟩:=hc i hi
  exact ⟨u,hu,hr.ext h.ext⟩
theorem RU.move (h:Move cx m w lb m' w' lb') {x:AU} {v:Value} (hx:RU cx m w lb x v):RU cx m' w' lb' x v:=by
 cases x with
 | c x=>exact fD.move h hx
 | agg l=>
  obtain ⟨vs,rfl,hsz,hc⟩:=hx
  refine ⟨vs,rfl,hsz,λi hi=> ?_⟩
  obtain ⟨u,hu,hr⟩:=hc i hi
  exact ⟨u,hu,fD.move h hr⟩
theorem RA.move (h:Move cx m w lb m' w' lb') {x:AV} {v:Value} (hx:RA cx m w lb x v):RA cx m' w' lb' x v:=by
 cases x with
 | u x=>exact RU.move h hx
 | Jy l=>
  obtain ⟨vs,rfl,hsz,hc⟩:=hx
  refine ⟨vs,rfl,hsz,λi hi=> ?_⟩
  obtain ⟨u,hu,hr⟩:=hc i hi
  exact ⟨u,hu,RU.move h hr⟩
 | cnd b x=>exact ⟨λhb=>RU.move h (hx.1 hb),hx.2⟩
end Go.dR
set_option linter.unusedVariables false
set_option linter.unusedSimpArgs false
namespace Go.dR
def upd (f:Nat->Option Nat) (k:Nat) (v:Option Nat):Nat->Option Nat:=λi=>if i=k then v else f i
theorem upd_same (f:Nat->Option Nat) (k:Nat) (v:Option Nat):upd f k v k=v:=by simp [upd]
theorem bF {f:Nat->Option Nat} {k i:Nat} {v:Option Nat} (h:i≠k):upd f k v i=f i:=by simp [upd,h]
theorem aX {α:Type} (k:Nat) (v:α) (l:List (Nat×α)):lk ((k,v)::l) k=some v:=by simp [lk]
theorem aS {α:Type} {k i:Nat} {v:α} {l:List (Nat×α)} (h:i≠k):lk ((k,v)::l) i=lk l i:=by simp [lk,Ne.symm h]
variable {cx:Cx} {st:St} {m m':Mp} {a:Act} {w w':World}
theorem Rel.slot (R:Rel cx st m a w) {t:Nat} {v:AV} {u:Value} (ht:t<cx.nt) (hv:RA cx m w (lk st.lb) v u) :
 Rel cx (st.slot t v) m (a.put (some t) u) w:=by
 refine { R with slots:=λt' v' hl=> ?_,nt:=by simp [Act.put,R.nt],defers:=R.defers }
 by_cases h:t'=t
 ·subst h
  rw [St.slot,aX] at hl
  obtain rfl:=Option.some.inj hl
  refine ⟨ht,?_⟩
  simp only [Act.put,Array.getD_eq_getD_getElem?]
  rw [Array.getElem?_setIfInBounds_self_of_lt (by rw [R.nt]; exact ht)]
  exact hv
 rw [St.slot,aS h] at hl
 obtain ⟨h1,h2⟩:=R.slots t' v' hl
 refine ⟨h1,?_⟩
 change RA cx m w (lk st.lb) v' _
 simpa [Act.put,Array.getD_eq_getD_getElem?,Array.getElem?_setIfInBounds,Ne.symm h] using h2
theorem Rel.P9 (R:Rel cx st m a w) {bx:List (Nat×List AC)} {lb:List (Nat×fE)}
 (he:dS w w') (hm:Move cx m w (lk st.lb) m' w' (lk lb)) (hold:∀ B,B<cx.w0.heap.size->w'.heap[B]? =w.heap[B]?) (hrec:gV w w')
 (boxes:∀ b cs,lk bx b=some cs->∃ B c T,m'.box b=some B/\w'.heap[B]? =some (.cells c T (0,0))/\c.size=cs.length/\
  ∀ j,j<cs.length->∃ u,c[j]? =some u/\fD cx m' w' (lk lb) (cs.getD j .undef) u)
 (gI:∀ b,lk bx b=none->m'.box b=none)
 (nG:∀ k x,od (lk lb k)=some x->x.cu=true/\∀ B,m'.own k=some B->Row w' (fP cx m') B x)
 (gX:∀ k,od (lk lb k)=none->m'.own k=none)
 (bn:Lj cx (lk lb) m' w')
 (dK:∀ k B,m'.own k=some B->cx.w0.heap.size<=B/\B<w'.heap.size)
 (gu:∀ b B,m'.box b=some B->cx.w0.heap.size<=B/\B<w'.heap.size)
 (je:∀ k k' B,m'.own k=some B->m'.own k'=some B->k=k')
 (kS:∀ b b' B,m'.box b=some B->m'.box b'=some B->b=b')
 (sU:∀ k b B,m'.own k=some B->m'.box b≠some B) (sets:Sets cx (lk lb) m' w'):Rel cx ⟨st.sl,bx,lb⟩ m' a w' where
 defers:=R.defers.imp λ_ h=>h.keeps hrec
 recs:=λp hp=>⟨(R.recs p hp).1,hrec _ _ (R.recs p hp).2.1 (R.recs p hp).2.2.1,(R.recs p hp).2.2⟩
 nt:=R.nt
 env:=R.env.trans he
 size:=Nat.le_trans R.size hm.ext.size
 old:=λB hB=>(hold B hB).trans (R.old B hB)
 s0:=R.s0
 slots:=λt v hl=>⟨(R.slots t v hl).1,RA.move hm (R.slots t v hl).2⟩
 fG:=λp hp=>RA.move hm (R.fG p hp)
 boxes:=boxes
 gI:=gI
 nG:=nG
 gX:=gX
 bn:=bn
 sets:=sets
 dK:=dK
 gu:=gu
 je:=je
 kS:=kS
 sU:=sU
theorem Rel.jC (R:Rel cx st m a w) {bx:List (Nat×List AC)} {lb:List (Nat×fE)}
 (he:dS w w') (hm:Move cx m w (lk st.lb) m' w' (lk lb)) (hold:∀ B,B<cx.w0.heap.size->w'.heap[B]? =w.heap[B]?) (hrec:gV w w')
 (boxes:∀ b cs,lk bx b=some cs->∃ B c T,m'.box b=some B/\w'.heap[B]? =some (.cells c T (0,0))/\c.size=cs.length/\
  ∀ j,j<cs.length->∃ u,c[j]? =some u/\fD cx m' w' (lk lb) (cs.getD j .undef) u)
 (gI:∀ b,lk bx b=none->m'.box b=none)
 (nG:∀ k x,od (lk lb k)=some x->x.cu=true/\∀ B,m'.own k=some B->Row w' (fP cx m') B x)
 (gX:∀ k,od (lk lb k)=none->m'.own k=none)
 (bn:Lj cx (lk lb) m' w')
 (dK:∀ k B,m'.own k=some B->cx.w0.heap.size<=B/\B<w'.heap.size)
 (gu:∀ b B,m'.box b=some B->cx.w0.heap.size<=B/\B<w'.heap.size)
 (je:∀ k k' B,m'.own k=some B->m'.own k'=some B->k=k')
 (kS:∀ b b' B,m'.box b=some B->m'.box b'=some B->b=b')
 (sU:∀ k b B,m'.own k=some B->m'.box b≠some B) (hmp:m'.mp=m.mp:=by rfl)
 (hls:∀ k x,lk lb k=some (.set x)->lk st.lb k=some (.set x):=by first | exact λ_ _ h=>h | (intro k0 x0 h0; simp only [lk] at h0 ⊢; (repeat' split at h0)<;>first | exact h0 | (cases h0; done) | (simp_all; done))):Rel cx ⟨st.sl,bx,lb⟩ m' a w':=
 R.P9 he hm hold hrec boxes gI nG gX bn dK gu je kS sU (R.sets.keep hmp hls hrec hm.ext.size λ_ _ h=>h.move hm)
theorem Rel.PY (R:Rel cx st m a w) {k B:Nat} (h:m.own k=some B):∃ x,od (lk st.lb k)=some x/\x.cu=true/\Row w (fP cx m) B x:=by
 cases hx:od (lk st.lb k) with
 | some x=>exact ⟨x,rfl,(R.nG k x hx).1,(R.nG k x hx).2 B h⟩
 | none=>
  have:=R.gX k hx
  rw [h] at this; cases this
theorem Rel.aeW (R:Rel cx st m a w) {b B:Nat} (h:m.box b=some B):∃ cs,lk st.bx b=some cs:=by
 cases hx:lk st.bx b with
 | some cs=>exact ⟨cs,rfl⟩
 | none=>have:=R.gI b hx; rw [h] at this; cases this
theorem Rel.Af (R:Rel cx st m a w) {k B:Nat} (h:m.own k=some B) (hold:∀ B',B'≠B->w'.heap[B']? =w.heap[B']?):gV w w':=by
 obtain ⟨x,-,-,c,T,hc,-⟩:=R.PY h
 exact .one hc hold
theorem Rel.ac3 (R:Rel cx st m a w) {b B:Nat} (h:m.box b=some B) (hold:∀ B',B'≠B->w'.heap[B']? =w.heap[B']?):gV w w':=by
 obtain ⟨cs,hcs⟩:=R.aeW h
 obtain ⟨B',c,T,h1,h2,-⟩:=R.boxes b cs hcs
 rw [h] at h1; obtain rfl:=Option.some.inj h1
 exact .one h2 hold
theorem gZ (hown:∀ k B,m.own k=some B->m'.own k=some B) (hno:∀ k,m.own k=none->(∃ x,od (lk st.lb k)=some x)->m'.own k=none)
 (hsz:∀ k B,m.own k=some B->qh w w' B) (hmp:m'.mp=m.mp:=by rfl):∀ k,fZ cx m w (lk st.lb) m' w' (lk st.lb) k:=by
 intro k
 simp only [fZ]
 cases hl:lk st.lb k with
 | none=>trivial
 | some L=>
  cases L with
  | dead=>rfl
  | shared x=>exact .inr rfl
  | owned x=>
   refine .inr (.inl ⟨x,rfl,rfl,rfl,?_,λB hB=>hsz k B hB⟩)
   cases ho:m.own k with
   | none=>exact hno k ho ⟨x,by rw [hl]; rfl⟩
   | some B=>exact hown k B ho
  | deep x=>
   refine .inr (.inl ⟨x.gK,rfl,rfl,rfl,?_,λB hB=>hsz k B hB⟩)
   cases ho:m.own k with
   | none=>exact hno k ho ⟨x.gK,by rw [hl]; rfl⟩
   | some B=>exact hown k B ho
  | set x=>exact .inr ⟨x,rfl,by rw [hmp]⟩
theorem Rel.grow (R:Rel cx st m a w) (he:dS w w') (hs:w.heap.size<=w'.heap.size) (h:∀ B,B<w.heap.size->w'.heap[B]? =w.heap[B]?):Rel cx st m a w':=by
 have hm:Move cx m w (lk st.lb) m w' (lk st.lb):=⟨⟨hs,λB hB _=>h B hB,λ_ _ h=>h⟩,λ_ _ h=>h,
  gZ (λ_ _ h=>h) (λ_ h _=>h) (λk B hB=> .of_eq (h B (R.dK k B hB).2))⟩
 refine R.jC he hm (λB hB=>h B (Nat.lt_of_lt_of_le hB R.size)) (.grow h) (λb cs hb=> ?_) R.gI (λk x hk=>⟨(R.nG k x hk).1,λB hB=> ?_⟩) R.gX (R.bn.keep rfl (λ_ _=>Iff.rfl) (λ_ _ _=>rfl) hm.ext (λk _ B _ hB=>h B (R.dK k B hB).2) (λk j B hB=>h B (R.bn.blk k j B hB).2) (λk B hB=> .inl ⟨k,hB⟩) (λb B hB=> .inl ⟨b,hB⟩))
  (λk B hB=>⟨(R.dK k B hB).1,Nat.lt_of_lt_of_le (R.dK k B hB).2 hs⟩) (λk B hB=>⟨(R.gu k B hB).1,Nat.lt_of_lt_of_le (R.gu k B hB).2 hs⟩) R.je R.kS R.sU
 ·obtain ⟨B,c,T,h1,h2,h3,h4⟩:=R.boxes b cs hb
  refine ⟨B,c,T,h1,by rw [h B (R.gu b B h1).2]; exact h2,h3,λj hj=> ?_⟩
  obtain ⟨u,hu,hr⟩:=h4 j hj
  exact ⟨u,hu,hr.move hm⟩
 exact ((R.nG k x hk).2 B hB).ext hm.ext (h B (R.dK k B hB).2)
theorem Rel.drawn (R:Rel cx st m a w) (n:Nat):Rel cx st m a { w with drawn:=n } :=R.grow (.refl _) (Nat.le_refl _) (λ_ _=>rfl)
theorem Rel.jU (R:Rel cx st m a w) {b:Nat} (hb:lk st.bx b=none) {cs:List AC} {c:Array Value} {T:TypeId} (hsz:c.size=cs.length)
 (hcs:∀ j,j<cs.length->∃ u,c[j]? =some u/\fD cx m w (lk st.lb) (cs.getD j .undef) u) :
 Rel cx ⟨st.sl,(b,cs)::st.bx,st.lb⟩ ⟨m.own,upd m.box b (some w.heap.size),m.inn,m.mp⟩ a { w with heap:=w.heap.push (.cells c T (0,0)) } :=by
 have hnb:=R.gI b hb
 have hsame:∀ B,B<w.heap.size->(w.heap.push (.cells c T (0,0)))[B]? =w.heap[B]? :=λB hB=>by
  rw [Array.getElem?_push,if_neg (by omega)]
 have hm:Move cx m w (lk st.lb) ⟨m.own,upd m.box b (some w.heap.size),m.inn,m.mp⟩ { w with heap:=w.heap.push (.cells c T (0,0)) } (lk st.lb):=by
  refine ⟨⟨by simp,λB hB _=>hsame B hB,λB hB hS=>⟨hS.1,hS.2.1,λb' hb'=> ?_,hS.2.2.2⟩⟩,λb' B h=> ?_,gZ (λ_ _ h=>h) (λ_ h _=>h) (λk B hB=> .of_eq (hsame B (R.dK k B hB).2))⟩
  ·simp only [upd] at hb'
   split at hb'
   ·simp at hb'; omega
   exact hS.2.2.1 b' hb'
  have:b'≠b:=by rintro rfl; rw [hnb] at h; cases h
  simp only [bF this]; exact h
 have hbx:∀ b' B,upd m.box b (some w.heap.size) b'=some B->(b'=b/\B=w.heap.size)\/(b'≠b/\m.box b'=some B):=by
  intro b' B h
  simp only [upd] at h
  split at h
  ·exact .inl ⟨by assumption,by simpa using h.symm⟩
  exact .inr ⟨by assumption,h⟩
 refine R.jC ⟨rfl,rfl,rfl⟩ hm (λB hB=>hsame B (Nat.lt_of_lt_of_le hB R.size)) (.grow hsame) (λb' cs' hl=> ?_) (λb' hl=> ?_) (λk x hk=>⟨(R.nG k x hk).1,λB hB=> ?_⟩) R.gX (R.bn.keep rfl (λ_ _=>Iff.rfl) (λ_ _ _=>rfl) hm.ext (λk _ B _ hB=>hsame B (R.dK k B hB).2) (λk j B hB=>hsame B (R.bn.blk k j B hB).2) (λk B hB=> .inl ⟨k,hB⟩) (λb B hB=>by
  rcases hbx b B hB with ⟨_,e⟩ | ⟨_,h⟩
  ·exact .inr (by omega)
  exact .inl ⟨_,h⟩)) ?_ ?_ R.je ?_ ?_
 ·by_cases h:b'=b
  ·subst h
   rw [aX] at hl
   obtain rfl:=Option.some.inj hl
   refine ⟨w.heap.size,c,T,upd_same _ _ _,by simp,hsz,λj hj=> ?_⟩
   obtain ⟨u,hu,hr⟩:=hcs j hj
   exact ⟨u,hu,hr.move hm⟩
  rw [aS h] at hl
  obtain ⟨B,c',T',h1,h2,h3,h4⟩:=R.boxes b' cs' hl
  refine ⟨B,c',T',by simp only [bF h]; exact h1,by rw [hsame B (R.gu b' B h1).2]; exact h2,h3,λj hj=> ?_⟩
  obtain ⟨u,hu,hr⟩:=h4 j hj
  exact ⟨u,hu,hr.move hm⟩
 ·by_cases h:b'=b
  ·subst h; rw [aX] at hl; cases hl
  rw [aS h] at hl; simp only [bF h]; exact R.gI b' hl
 ·exact ((R.nG k x hk).2 B hB).ext hm.ext (hsame B (R.dK k B hB).2)
 ·intro k B hB
  have:=R.dK k B hB
  exact ⟨this.1,by simp; omega⟩
 ·intro b' B hB
  rcases hbx b' B hB with ⟨_,rfl⟩ | ⟨_,h⟩
  ·exact ⟨R.size,by simp⟩
  have:=R.gu b' B h
  exact ⟨this.1,by simp; omega⟩
 ·intro b1 b2 B h1 h2
  rcases hbx b1 B h1 with ⟨rfl,rfl⟩ | ⟨n1,h1⟩<;>rcases hbx b2 _ h2 with ⟨e,e2⟩ | ⟨n2,h2⟩
  ·exact e.symm
  ·have:=R.gu b2 _ h2; omega
  ·subst e2; have:=R.gu b1 _ h1; omega
  exact R.kS _ _ _ h1 h2
 intro k b' B h1 h2
 rcases hbx b' B h2 with ⟨_,rfl⟩ | ⟨_,h⟩
 ·have:=R.dK k _ h1; omega
 exact R.sU k b' B h1 h
theorem Rel.fU (R:Rel cx st m a w) {k:Nat} (hk:lk st.lb k=none) {x:D} (hs:w.heap.size<=w'.heap.size)
 (hold:∀ B,B<w.heap.size->w'.heap[B]? =w.heap[B]?) {B:Nat} (hB:w.heap.size<=B) (hB':B<w'.heap.size) (hx:x.cu=true) (he:dS w w')
 (hrow:Row w' (λB'=>fP cx m B'/\B'≠B) B x) :
 Rel cx ⟨st.sl,st.bx,(k,.owned x)::st.lb⟩ ⟨upd m.own k (some B),m.box,m.inn,m.mp⟩ a w':=by
 have hno:m.own k=none:=R.zZ k hk
 have hsub:∀ B',fP cx m B'->B'≠B->fP cx ⟨upd m.own k (some B),m.box,m.inn,m.mp⟩ B':=λB' h hne=>⟨h.1,λk' hk'=>by
  simp only [upd] at hk'
  split at hk'
  ·simp at hk'; exact hne hk'.symm
  exact h.2.1 k' hk',h.2.2⟩
 have hne:∀ k' B',m.own k'=some B'->k'≠k:=λk' B' h e=>by subst e; rw [hno] at h; cases h
 have hlk:∀ k',k'≠k->lk ((k,fE.owned x)::st.lb) k'=lk st.lb k':=λk' h=>aS h
 have hm:Move cx m w (lk st.lb) ⟨upd m.own k (some B),m.box,m.inn,m.mp⟩ w' (lk ((k,.owned x)::st.lb)):=by
  refine ⟨⟨hs,λB hB _=>hold B hB,λB' hB' hS=>hsub B' hS (by omega)⟩,λ_ _ h=>h,λk'=> ?_⟩
  by_cases e:k'=k
  ·subst e; simp [fZ,hk]
  have:=gZ (cx:=cx) (st:=st) (m:=m) (m':=⟨upd m.own k (some B),m.box,m.inn,m.mp⟩) (w:=w) (w':=w') (λk B' h=>by simp only [bF (hne _ _ h)]; exact h)
   (λk' h ⟨y,hy⟩=>by
    have:k'≠k:=by rintro rfl; rw [hk] at hy; cases hy
    simp only [bF this]; exact h) (λk B hB=> .of_eq (hold B (R.dK k B hB).2)) rfl k'
  simpa only [fZ,hlk k' e] using this
 have hown:∀ k' B',upd m.own k (some B) k'=some B'->(k'=k/\B'=B)\/(k'≠k/\m.own k'=some B'):=by
  intro k' B' h
  simp only [upd] at h
  split at h
  ·exact .inl ⟨by assumption,by simpa using h.symm⟩
  exact .inr ⟨by assumption,h⟩
 refine R.jC he hm (λB hB=>hold B (Nat.lt_of_lt_of_le hB R.size)) (.grow hold) (λb cs hb=> ?_) R.gI (λk' y hy=> ?_) (λk' hk'=> ?_) (R.bn.keep rfl (λk0 x0=>by
  by_cases e0:k0=k
  ·subst e0; rw [aX,hk]; exact ⟨λh=>(by cases h),λh=>(by cases h)⟩
  ·rw [aS e0]) (λk0 x0 h0=>bF (by rintro rfl; rw [hk] at h0; cases h0)) hm.ext (λk0 _ B hl hB=>hold B (R.dK k0 B hB).2) (λk0 j0 B hB=>hold B (R.bn.blk k0 j0 B hB).2) (λk0 B hB=>by
  rcases hown k0 B hB with ⟨_,e⟩ | ⟨_,h⟩
  ·exact .inr (by omega)
  ·exact .inl ⟨_,h⟩) (λb B hB=> .inl ⟨b,hB⟩)) ?_
  (λb B hb=>⟨(R.gu b B hb).1,Nat.lt_of_lt_of_le (R.gu b B hb).2 hs⟩) ?_ R.kS ?_
 ·obtain ⟨B,c,T,h1,h2,h3,h4⟩:=R.boxes b cs hb
  refine ⟨B,c,T,h1,by rw [hold B (R.gu b B h1).2]; exact h2,h3,λj hj=> ?_⟩
  obtain ⟨u,hu,hr⟩:=h4 j hj
  exact ⟨u,hu,hr.move hm⟩
 ·by_cases e:k'=k
  ·subst e
   rw [aX] at hy
   obtain ⟨⟩:=Option.some.inj hy
   refine ⟨hx,λB' h=> ?_⟩
   simp only [upd_same] at h
   obtain rfl:=Option.some.inj h
   exact Row.ext ⟨Nat.le_refl _,λ_ _ _=>rfl,λB' _ h=>hsub B' h.1 h.2⟩ rfl hrow
  rw [aS e] at hy
  refine ⟨(R.nG k' y hy).1,λB' h=> ?_⟩
  simp only [bF e] at h
  exact ((R.nG k' y hy).2 B' h).ext hm.ext (hold B' (R.dK k' B' h).2)
 ·have e:k'≠k:=by rintro rfl; rw [aX] at hk'; cases hk'
  simp only [bF e]
  exact R.gX k' (by rw [aS e] at hk'; exact hk')
 ·intro k' B' h
  rcases hown k' B' h with ⟨_,rfl⟩ | ⟨_,h⟩
  ·exact ⟨Nat.le_trans R.size hB,hB'⟩
  exact ⟨(R.dK k' B' h).1,Nat.lt_of_lt_of_le (R.dK k' B' h).2 hs⟩
 ·intro k1 k2 B' h1 h2
  rcases hown k1 B' h1 with ⟨rfl,rfl⟩ | ⟨n1,g1⟩<;>rcases hown k2 _ h2 with ⟨e,e2⟩ | ⟨n2,h2⟩
  ·exact e.symm
  ·have:=R.dK k2 _ h2; omega
  ·subst e2; have:=R.dK k1 _ g1; omega
  exact R.je _ _ _ g1 h2
 intro k' b B' h1 h2
 rcases hown k' B' h1 with ⟨_,rfl⟩ | ⟨_,h⟩
 ·have:=R.gu b _ h2; omega
 exact R.sU k' b B' h h2
theorem Rel.MX (R:Rel cx st m a w) {k:Nat} (hk:lk st.lb k=none) {x:D} (hx:x.cu=true) :
 Rel cx ⟨st.sl,st.bx,(k,.owned x)::st.lb⟩ m a w:=by
 have hno:m.own k=none:=R.zZ k hk
 have hm:Move cx m w (lk st.lb) m w (lk ((k,.owned x)::st.lb)):=by
  refine ⟨⟨Nat.le_refl _,λ_ _ _=>rfl,λ_ _ h=>h⟩,λ_ _ h=>h,λk'=> ?_⟩
  by_cases e:k'=k
  ·subst e; simp [fZ,hk]
  have:=gZ (cx:=cx) (st:=st) (m:=m) (m':=m) (w:=w) (w':=w) (λ_ _ h=>h) (λ_ h _=>h) (λk B _=> .of_eq rfl) rfl k'
  simpa only [fZ,aS e] using this
 refine R.jC (.refl _) hm (λ_ _=>rfl) (.refl _) (λb cs hb=> ?_) R.gI (λk' y hy=> ?_) (λk' hk'=> ?_) (R.bn.keep rfl (λk0 x0=>by
  by_cases e0:k0=k
  ·subst e0; rw [aX,hk]; exact ⟨λh=>(by cases h),λh=>(by cases h)⟩
  rw [aS e0]) (λ_ _ _=>rfl) hm.ext (λ_ _ _ _ _=>rfl) (λ_ _ _ _=>rfl) (λk B hB=> .inl ⟨k,hB⟩) (λb B hB=> .inl ⟨b,hB⟩)) R.dK R.gu R.je R.kS R.sU
 ·obtain ⟨B,c,T,h1,h2,h3,h4⟩:=R.boxes b cs hb
  refine ⟨B,c,T,h1,h2,h3,λj hj=> ?_⟩
  obtain ⟨u,hu,hr⟩:=h4 j hj
  exact ⟨u,hu,hr.move hm⟩
 ·by_cases e:k'=k
  ·subst e
   rw [aX] at hy
   obtain ⟨⟩:=Option.some.inj hy
   exact ⟨hx,λB h=>by rw [hno] at h; cases h⟩
  rw [aS e] at hy; exact R.nG k' y hy
 have e:k'≠k:=by rintro rfl; rw [aX] at hk'; cases hk'
 exact R.gX k' (by rw [aS e] at hk'; exact hk')
theorem Rel.share (R:Rel cx st m a w) {k:Nat} {x:D} (hk:lk st.lb k=some (.owned x)) :
 Rel cx ⟨st.sl,st.bx,(k,.shared x)::st.lb⟩ ⟨upd m.own k none,m.box,m.inn,m.mp⟩ a w:=by
 have hle:∀ k' B,upd m.own k none k'=some B->k'≠k/\m.own k'=some B:=by
  intro k' B h
  simp only [upd] at h
  split at h
  ·cases h
  exact ⟨by assumption,h⟩
 have hsub:∀ B',fP cx m B'->fP cx ⟨upd m.own k none,m.box,m.inn,m.mp⟩ B':=λB' h=>⟨h.1,λk' hk'=>h.2.1 k' (hle _ _ hk').2,h.2.2⟩
 have hm:Move cx m w (lk st.lb) ⟨upd m.own k none,m.box,m.inn,m.mp⟩ w (lk ((k,.shared x)::st.lb)):=by
  refine ⟨⟨Nat.le_refl _,λ_ _ _=>rfl,λB' _ h=>hsub B' h⟩,λ_ _ h=>h,λk'=> ?_⟩
  by_cases e:k'=k
  ·subst e
   simp only [fZ,hk,aX]
   refine .inr (.inr ⟨(by first | rfl | trivial),(R.owned _ x hk).1,λB hB=>⟨((R.owned _ x hk).2 B hB).ext ⟨Nat.le_refl _,λ_ _ _=>rfl,λB' _ h=>hsub B' h⟩ rfl,?_,(R.dK _ B hB).2⟩⟩)
   exact ⟨.inr (R.dK _ B hB).1,λk' h=>(hle k' B h).1 (R.je _ _ _ (hle k' B h).2 hB),λb=>R.sU _ b B hB,λk2 j2 h2=>R.bn.own k2 j2 _ B h2 hB⟩
  have:=gZ (cx:=cx) (st:=st) (m:=m) (m':=m) (w:=w) (w':=w) (λ_ _ h=>h) (λ_ h _=>h) (λk B _=> .of_eq rfl) rfl k'
  simp only [fZ,aS e,bF e] at this ⊢
  cases hl:lk st.lb k' with
  | none=>trivial
  | some L=>
   simp only [hl] at this ⊢
   cases L with
   | owned y=>
    refine .inr (.inl ⟨y,(by first | rfl | trivial),(by first | rfl | trivial),(by first | rfl | trivial),(by first | rfl | trivial),λB _=> .of_eq rfl⟩)
   | deep y=>
    refine .inr (.inl ⟨y.gK,(by first | rfl | trivial),(by first | rfl | trivial),(by first | rfl | trivial),(by first | rfl | trivial),λB _=> .of_eq rfl⟩)
   | shared y=>simp
   | dead=>rfl
   | set y=>exact .inr ⟨y,(by first | rfl | trivial),(by first | rfl | trivial)⟩
 refine R.jC (.refl _) hm (λ_ _=>rfl) (.refl _) (λb cs hb=> ?_) R.gI (λk' y hy=> ?_) (λk' hk'=> ?_) (R.bn.keep rfl (λk0 x0=>by
  by_cases e0:k0=k
  ·subst e0; rw [aX,hk]; exact ⟨λh=>(by cases h),λh=>(by cases h)⟩
  ·rw [aS e0]) (λk0 x0 h0=>bF (by rintro rfl; rw [hk] at h0; cases h0)) hm.ext (λ_ _ _ _ _=>rfl) (λ_ _ _ _=>rfl) (λk0 B hB=> .inl ⟨_,(hle _ _ hB).2⟩) (λb B hB=> .inl ⟨b,hB⟩)) (λk' B h=>R.dK k' B (hle _ _ h).2) R.gu
  (λk1 k2 B h1 h2=>R.je _ _ B (hle _ _ h1).2 (hle _ _ h2).2) R.kS (λk' b B h=>R.sU k' b B (hle _ _ h).2)
 ·obtain ⟨B,c,T,h1,h2,h3,h4⟩:=R.boxes b cs hb
  refine ⟨B,c,T,h1,h2,h3,λj hj=> ?_⟩
  obtain ⟨u,hu,hr⟩:=h4 j hj
  exact ⟨u,hu,hr.move hm⟩
 ·have e:k'≠k:=by rintro rfl; rw [aX] at hy; cases hy
  rw [aS e] at hy
  refine ⟨(R.nG k' y hy).1,λB h=> ?_⟩
  exact ((R.nG k' y hy).2 B (hle _ _ h).2).ext hm.ext rfl
 by_cases e:k'=k
 ·subst e; simp [upd_same]
 simp only [bF e]
 exact R.gX k' (by rw [aS e] at hk'; exact hk')
theorem Rel.afB (R:Rel cx st m a w) {k B:Nat} (hB:m.own k=some B) {x x':D} (hk:lk st.lb k=some (.owned x)) (hx':x'.cu=true)
 (hl:x'.len=x.len) (hst:x'.stride=x.stride)
 (he:dS w w') (hsz:w'.heap.size=w.heap.size) (hold:∀ B',B'≠B->w'.heap[B']? =w.heap[B']?) (hkept:qh w w' B)
 (hrow:Row w' (fP cx m) B x'):Rel cx ⟨st.sl,st.bx,(k,.owned x')::st.lb⟩ m a w':=by
 have hS:∀ B',fP cx m B'->B'≠B:=λB' h e=>by subst e; exact h.2.1 k hB
 have hne:∀ k' B',m.own k'=some B'->k'≠k->B'≠B:=λk' B' h e e2=>by subst e2; exact e (R.je _ _ _ h hB)
 have hm:Move cx m w (lk st.lb) m w' (lk ((k,.owned x')::st.lb)):=by
  refine ⟨⟨by omega,λB' _ h=>hold B' (hS B' h),λ_ _ h=>h⟩,λ_ _ h=>h,λk'=> ?_⟩
  by_cases e:k'=k
  ·subst e
   simp only [fZ,hk,aX]
   exact .inr (.inl ⟨x',(by first | rfl | trivial),hl,hst,(by first | rfl | trivial),λB' h=>by rw [hB] at h; obtain rfl:=Option.some.inj h; exact hkept⟩)
  have:=gZ (cx:=cx) (st:=st) (m:=m) (m':=m) (w:=w) (w':=w) (λ_ _ h=>h) (λ_ h _=>h) (λk B _=> .of_eq rfl) rfl k'
  simp only [fZ,aS e] at this ⊢
  cases hl:lk st.lb k' with
  | none=>trivial
  | some L=>
   simp only [hl] at this ⊢
   cases L with
   | owned y=>exact .inr (.inl ⟨y,(by first | rfl | trivial),(by first | rfl | trivial),(by first | rfl | trivial),(by first | rfl | trivial),λB' h=> .of_eq (hold B' (hne k' B' h e))⟩)
   | deep y=>exact .inr (.inl ⟨y.gK,(by first | rfl | trivial),(by first | rfl | trivial),(by first | rfl | trivial),(by first | rfl | trivial),λB' h=> .of_eq (hold B' (hne k' B' h e))⟩)
   | shared y=>simp
   | dead=>rfl
   | set y=>exact .inr ⟨y,(by first | rfl | trivial),(by first | rfl | trivial)⟩
 have hb0:cx.w0.heap.size<=B:=(R.dK _ B hB).1
 refine R.jC he hm (λB' h=>hold B' (by omega)) (R.Af hB hold) (λb cs hb=> ?_) R.gI (λk' y hy=> ?_) (λk' hk'=> ?_) (R.bn.keep rfl (λk0 x0=>by
  by_cases e0:k0=k
  ·subst e0; rw [aX,hk]; exact ⟨λh=>(by cases h),λh=>(by cases h)⟩
  rw [aS e0]) (λ_ _ _=>rfl) hm.ext (λk0 _ B' h0 hB'=>hold B' (hne k0 B' hB' (by rintro rfl; rw [hk] at h0; cases h0))) (λk0 j0 B' hB'=>hold B' (by rintro rfl; exact R.bn.own k0 j0 k _ hB' hB)) (λk B hB=> .inl ⟨k,hB⟩) (λb B hB=> .inl ⟨b,hB⟩)) (λk' B' h=>by rw [hsz]; exact R.dK k' B' h) (λb B' h=>by rw [hsz]; exact R.gu b B' h) R.je R.kS R.sU
 ·obtain ⟨B',c,T,h1,h2,h3,h4⟩:=R.boxes b cs hb
  refine ⟨B',c,T,h1,by rw [hold B' (λe=>R.sU k b B' (e▸hB) h1)]; exact h2,h3,λj hj=> ?_⟩
  obtain ⟨u,hu,hr⟩:=h4 j hj
  exact ⟨u,hu,hr.move hm⟩
 ·by_cases e:k'=k
  ·subst e
   rw [aX] at hy
   obtain ⟨⟩:=Option.some.inj hy
   exact ⟨hx',λB' h=>by rw [hB] at h; obtain rfl:=Option.some.inj h; exact hrow⟩
  rw [aS e] at hy
  exact ⟨(R.nG k' y hy).1,λB' h=>((R.nG k' y hy).2 B' h).ext hm.ext (hold B' (hne _ _ h e))⟩
 have e:k'≠k:=by rintro rfl; rw [aX] at hk'; cases hk'
 exact R.gX k' (by rw [aS e] at hk'; exact hk')
theorem Rel.afC (R:Rel cx st m a w) {b B:Nat} (hB:m.box b=some B) {cs':List AC} {c':Array Value} {T:TypeId}
 (he:dS w w') (hsz:w'.heap.size=w.heap.size) (hold:∀ B',B'≠B->w'.heap[B']? =w.heap[B']?) (hc':w'.heap[B]? =some (.cells c' T (0,0)))
 (hlen:c'.size=cs'.length) (hcs:∀ j,j<cs'.length->∃ u,c'[j]? =some u/\fD cx m w (lk st.lb) (cs'.getD j .undef) u) :
 Rel cx ⟨st.sl,(b,cs')::st.bx,st.lb⟩ m a w':=by
 have hS:∀ B',fP cx m B'->B'≠B:=λB' h e=>by subst e; exact h.2.2.1 b hB
 have hno:∀ k B',m.own k=some B'->B'≠B:=λk B' h e=>by subst e; exact R.sU k b _ h hB
 have hm:Move cx m w (lk st.lb) m w' (lk st.lb):=
  ⟨⟨by omega,λB' _ h=>hold B' (hS B' h),λ_ _ h=>h⟩,λ_ _ h=>h,gZ (λ_ _ h=>h) (λ_ h _=>h) (λk B' h=> .of_eq (hold B' (hno k B' h)))⟩
 have hb0:cx.w0.heap.size<=B:=(R.gu _ B hB).1
 refine R.jC he hm (λB' h=>hold B' (by omega)) (R.ac3 hB hold) (λb' cs hb=> ?_) (λb' hb=> ?_) (λk y hy=>⟨(R.nG k y hy).1,λB' h=>((R.nG k y hy).2 B' h).ext hm.ext (hold B' (hno k B' h))⟩) R.gX (R.bn.keep rfl (λ_ _=>Iff.rfl) (λ_ _ _=>rfl) hm.ext (λk0 _ B' h0 hB'=>hold B' (hno k0 B' hB')) (λk0 j0 B' hB'=>hold B' (by rintro rfl; exact R.bn.box k0 j0 b _ hB' hB)) (λk B hB=> .inl ⟨k,hB⟩) (λb B hB=> .inl ⟨b,hB⟩))
  (λk' B' h=>by rw [hsz]; exact R.dK k' B' h) (λb B' h=>by rw [hsz]; exact R.gu b B' h) R.je R.kS R.sU
 ·by_cases e:b'=b
  ·subst e
   rw [aX] at hb
   obtain rfl:=Option.some.inj hb
   refine ⟨B,c',T,hB,hc',hlen,λj hj=> ?_⟩
   obtain ⟨u,hu,hr⟩:=hcs j hj
   exact ⟨u,hu,hr.move hm⟩
  rw [aS e] at hb
  obtain ⟨B',c,T,h1,h2,h3,h4⟩:=R.boxes b' cs hb
  refine ⟨B',c,T,h1,by rw [hold B' (λe2=>e (R.kS _ _ _ h1 (e2▸hB)))]; exact h2,h3,λj hj=> ?_⟩
  obtain ⟨u,hu,hr⟩:=h4 j hj
  exact ⟨u,hu,hr.move hm⟩
 by_cases e:b'=b
 ·subst e; rw [aX] at hb; cases hb
 rw [aS e] at hb; exact R.gI b' hb
theorem Rel.agL (R:Rel cx st m a w) {k k' B:Nat} (hB:m.own k=some B) {x x':D} (hk:lk st.lb k=some (.owned x)) (hk':lk st.lb k'=none) (hx':x'.cu=true)
 (he:dS w w') (hsz:w'.heap.size=w.heap.size) (hold:∀ B',B'≠B->w'.heap[B']? =w.heap[B']?)
 (hrow:Row w' (fP cx m) B x'):Rel cx ⟨st.sl,st.bx,(k',.owned x')::(k,.dead)::st.lb⟩ ⟨upd (upd m.own k none) k' (some B),m.box,m.inn,m.mp⟩ a w':=by
 have hkk:k≠k':=by rintro rfl; rw [hk] at hk'; cases hk'
 have hS:∀ B',fP cx m B'->B'≠B:=λB' h e=>by subst e; exact h.2.1 k hB
 have hown:∀ i B',upd (upd m.own k none) k' (some B) i=some B'->(i=k'/\B'=B)\/(i≠k'/\i≠k/\m.own i=some B'):=by
  intro i B' h
  simp only [upd] at h
  split at h
  ·exact .inl ⟨by assumption,by simpa using h.symm⟩
  split at h
  ·cases h
  exact .inr ⟨by assumption,by assumption,h⟩
 have hback:∀ i B',m.own i=some B'->∃ j,upd (upd m.own k none) k' (some B) j=some B':=by
  intro i B' h
  by_cases e:i=k
  ·subst e; rw [hB] at h; obtain rfl:=Option.some.inj h; exact ⟨k',upd_same _ _ _⟩
  have e2:i≠k':=by
   rintro rfl
   have:=R.zZ i hk'
   rw [h] at this; cases this
  exact ⟨i,by rw [bF e2,bF e]; exact h⟩
 have hSS:∀ B',fP cx m B'->fP cx ⟨upd (upd m.own k none) k' (some B),m.box,m.inn,m.mp⟩ B':=λB' h=>⟨h.1,λi hi=>by
  rcases hown i B' hi with ⟨_,rfl⟩ | ⟨_,_,hi⟩
  ·exact hS _ h rfl
  exact h.2.1 i hi,h.2.2⟩
 have hne:∀ i B',m.own i=some B'->i≠k->B'≠B:=λi B' h e e2=>by subst e2; exact e (R.je _ _ _ h hB)
 have hm:Move cx m w (lk st.lb) ⟨upd (upd m.own k none) k' (some B),m.box,m.inn,m.mp⟩ w' (lk ((k',.owned x')::(k,.dead)::st.lb)):=by
  refine ⟨⟨by omega,λB' _ h=>hold B' (hS B' h),λB' _ h=>hSS B' h⟩,λ_ _ h=>h,λi=> ?_⟩
  by_cases e:i=k'
  ·subst e; simp [fZ,hk']
  by_cases e2:i=k
  ·subst e2; simp only [fZ,hk,aS e,aX]; exact .inl trivial
  simp only [fZ,aS e,aS e2]
  cases hl:lk st.lb i with
  | none=>trivial
  | some L=>
   cases L with
   | owned y=>exact .inr (.inl ⟨y,(by first | rfl | trivial),(by first | rfl | trivial),(by first | rfl | trivial),by simp only [bF e,bF e2],λB' h=> .of_eq (hold B' (hne i B' h e2))⟩)
   | deep y=>exact .inr (.inl ⟨y.gK,(by first | rfl | trivial),(by first | rfl | trivial),(by first | rfl | trivial),by simp only [bF e,bF e2],λB' h=> .of_eq (hold B' (hne i B' h e2))⟩)
   | shared y=>simp
   | dead=>rfl
   | set y=>exact .inr ⟨y,(by first | rfl | trivial),(by first | rfl | trivial)⟩
 have hb0:cx.w0.heap.size<=B:=(R.dK _ B hB).1
 refine R.jC he hm (λB' h=>hold B' (by omega)) (R.Af hB hold) (λb cs hb=> ?_) R.gI (λi y hy=> ?_) (λi hi=> ?_) (R.bn.keep rfl (λk0 x0=>by
  by_cases e0:k0=k'
  ·subst e0; rw [aX,hk']; exact ⟨λh=>(by cases h),λh=>(by cases h)⟩
  ·rw [aS e0]
   by_cases e1:k0=k
   ·subst e1; rw [aX,hk]; exact ⟨λh=>(by cases h),λh=>(by cases h)⟩
   rw [aS e1]) (λk0 x0 h0=>by
  have e0:k0≠k':=by rintro rfl; rw [hk'] at h0; cases h0
  have e1:k0≠k:=by rintro rfl; rw [hk] at h0; cases h0
  simp only [bF e0,bF e1]) hm.ext (λk0 _ B' h0 hB'=>hold B' (hne k0 B' hB' (by rintro rfl; rw [hk] at h0; cases h0))) (λk0 j0 B' hB'=>hold B' (by rintro rfl; exact R.bn.own k0 j0 k _ hB' hB)) (λk0 B' h=>by
  rcases hown k0 B' h with ⟨_,rfl⟩ | ⟨_,_,h⟩
  ·exact .inl ⟨k,hB⟩
  exact .inl ⟨_,h⟩) (λb B hB=> .inl ⟨b,hB⟩)) ?_ (λb B' h=>by rw [hsz]; exact R.gu b B' h) ?_ R.kS ?_
 ·obtain ⟨B',c,T,h1,h2,h3,h4⟩:=R.boxes b cs hb
  refine ⟨B',c,T,h1,by rw [hold B' (λe=>R.sU k b B' (e▸hB) h1)]; exact h2,h3,λj hj=> ?_⟩
  obtain ⟨u,hu,hr⟩:=h4 j hj
  exact ⟨u,hu,hr.move hm⟩
 ·by_cases e:i=k'
  ·subst e
   rw [aX] at hy
   obtain ⟨⟩:=Option.some.inj hy
   refine ⟨hx',λB' h=> ?_⟩
   simp only [upd_same] at h
   obtain rfl:=Option.some.inj h
   exact Row.ext ⟨Nat.le_refl _,λ_ _ _=>rfl,λB' _ h=>hSS B' h⟩ rfl hrow
  rw [aS e] at hy
  by_cases e2:i=k
  ·subst e2; rw [aX] at hy; cases hy
  rw [aS e2] at hy
  refine ⟨(R.nG i y hy).1,λB' h=> ?_⟩
  simp only [bF e,bF e2] at h
  exact ((R.nG i y hy).2 B' h).ext hm.ext (hold B' (hne _ _ h e2))
 ·have e:i≠k':=by rintro rfl; rw [aX] at hi; cases hi
  by_cases e2:i=k
  ·subst e2; simp only [bF e,upd_same]
  simp only [bF e,bF e2]
  exact R.gX i (by rw [aS e,aS e2] at hi; exact hi)
 ·intro i B' h
  rcases hown i B' h with ⟨_,rfl⟩ | ⟨_,_,h⟩
  ·rw [hsz]; exact R.dK k _ hB
  rw [hsz]; exact R.dK i B' h
 ·intro i j B' h1 h2
  rcases hown i B' h1 with ⟨rfl,rfl⟩ | ⟨n1,n2,g1⟩<;>rcases hown j _ h2 with ⟨e,e2⟩ | ⟨n3,n4,h2⟩
  ·exact e.symm
  ·exact absurd (R.je _ _ _ h2 hB) n4
  ·subst e2; exact absurd (R.je _ _ _ g1 hB) n2
  exact R.je _ _ _ g1 h2
 intro i b B' h1 h2
 rcases hown i B' h1 with ⟨_,rfl⟩ | ⟨_,_,h⟩
 ·exact R.sU k b _ hB h2
 exact R.sU i b B' h h2
theorem Rel.kill (R:Rel cx st m a w) {k:Nat} {x:D} (hk:lk st.lb k=some (.owned x)) :
 Rel cx ⟨st.sl,st.bx,(k,.dead)::st.lb⟩ ⟨upd m.own k none,m.box,m.inn,m.mp⟩ a w:=by
 have R2:=R.share hk
 have hm:Move cx ⟨upd m.own k none,m.box,m.inn,m.mp⟩ w (lk ((k,.shared x)::st.lb)) ⟨upd m.own k none,m.box,m.inn,m.mp⟩ w (lk ((k,.dead)::st.lb)):=by
  refine ⟨⟨Nat.le_refl _,λ_ _ _=>rfl,λ_ _ h=>h⟩,λ_ _ h=>h,λk'=> ?_⟩
  by_cases e:k'=k
  ·subst e; simp [fZ,aX]
  simp only [fZ,aS e]
  cases hl:lk st.lb k' with
  | none=>trivial
  | some L=>
   cases L with
   | owned y=>exact .inr (.inl ⟨y,(by first | rfl | trivial),(by first | rfl | trivial),(by first | rfl | trivial),(by first | rfl | trivial),λB _=> .of_eq rfl⟩)
   | deep y=>exact .inr (.inl ⟨y.gK,(by first | rfl | trivial),(by first | rfl | trivial),(by first | rfl | trivial),(by first | rfl | trivial),λB _=> .of_eq rfl⟩)
   | shared y=>simp
   | dead=>rfl
   | set y=>exact .inr ⟨y,(by first | rfl | trivial),(by first | rfl | trivial)⟩
 refine R2.jC (bx:=st.bx) (lb:=(k,.dead)::st.lb) (.refl _) hm (λ_ _=>rfl) (.refl _) (λb cs hb=> ?_) R2.gI (λk' y hy=> ?_) (λk' hk'=> ?_) (R2.bn.keep rfl (λk0 x0=>by
  by_cases e0:k0=k
  ·subst e0; rw [aX,aX]; exact ⟨λh=>(by cases h),λh=>(by cases h)⟩
  rw [aS e0,aS e0]) (λ_ _ _=>rfl) hm.ext (λ_ _ _ _ _=>rfl) (λ_ _ _ _=>rfl) (λk B hB=> .inl ⟨k,hB⟩) (λb B hB=> .inl ⟨b,hB⟩)) R2.dK R2.gu R2.je R2.kS R2.sU
 ·obtain ⟨B,c,T,h1,h2,h3,h4⟩:=R2.boxes b cs hb
  refine ⟨B,c,T,h1,h2,h3,λj hj=> ?_⟩
  obtain ⟨u,hu,hr⟩:=h4 j hj
  exact ⟨u,hu,hr.move hm⟩
 ·have e:k'≠k:=by rintro rfl; rw [aX] at hy; cases hy
  rw [aS e] at hy
  exact R2.nG k' y (by rw [aS e]; exact hy)
 refine R2.gX k' ?_
 by_cases e:k'=k
 ·subst e; rw [aX]; rfl
 rw [aS e] at hk' ⊢; exact hk'
theorem Rel.alike (R : Rel cx st m a w) {sl : List (Nat × AV)} {bx : List (Nat × List AC)} {lb : List (Nat × fE)} (h1 : ∀ k, lk sl k = lk st.sl k) (h2 : ∀ k, lk bx k = lk st.bx k) (h3 : ∀ k, lk lb k = lk st.lb k) :
    Rel cx ⟨sl, bx, lb⟩ m a w := by
  have e1 : lk sl = lk st.sl := funext h1
  have e2 : lk bx = lk st.bx := funext h2
  have e3 : lk lb = lk st.lb := funext h3
  exact { defers := R.defers, recs := R.recs, nt := R.nt, env := R.env, size := R.size, old := R.old, s0 := R.s0, slots := by simp only [e1, e3]; exact R.slots, fG := by simp only [e3]; exact R.fG, boxes := by simp only [e2, e3]; exact R.boxes,
          gI := by simp only [e2]; exact R.gI, nG := by simp only [e3]; exact R.nG, gX := by simp only [e3]; exact R.gX, bn := by simp only [e3]; exact R.bn, sets := by simp only [e3]; exact R.sets, dK := R.dK, gu := R.gu, je := R.je, kS := R.kS, sU := R.sU }
end Go.dR
set_option linter.unusedVariables false
set_option linter.unusedSimpArgs false
namespace Go.dR
variable {cx:Cx} {st:St} {m m':Mp} {a:Act} {w w':World}
theorem FI {x:List D} (h:x.length=1) (y:D):splice x 0 [y]=[y]:=by
 match x,h with
 | [b],_=>rfl
theorem FN {x:D} {i j:Nat} {y:D} (h:(x.nth j).length=1):yd (x.setAt j 0 [y]) i=if i=j then y else yd x i:=by
 have e:(x.setAt j 0 [y]).nth i=if i=j then splice (x.nth j) 0 [y] else x.nth i:=rfl
 unfold yd
 rw [e]
 split
 ·rw [FI h]; rfl
 rfl
theorem wG {x:D} {i j:Nat} {y:D} (h:(x.nth j).length=1) (hi:(x.nth i).length=1):((x.setAt j 0 [y]).nth i).length=1:=by
 have e:(x.setAt j 0 [y]).nth i=if i=j then splice (x.nth j) 0 [y] else x.nth i:=rfl
 rw [e]
 split
 ·rw [FI h]; rfl
 exact hi
theorem OY {x:D} (h:x= .undef) (hs:x.cu=true):False:=by subst h; cases hs
theorem Rel.agQ (R:Rel cx st m a w) {k kk j:Nat} {x:D} (hk:lk st.lb k=some (.deep x)) (hkk:lk st.lb kk=none) (hj:j<x.len) (hy:(yd x j).cu=true) :
 Rel cx ⟨st.sl,st.bx,(kk,.owned (yd x j))::(k,.deep (x.setAt j 0 [.undef]))::st.lb⟩ ⟨upd m.own kk (m.inn k j),m.box,λq i=>if q=k/\i=j then none else m.inn q i,m.mp⟩ a w:=by
 have hne:kk≠k:=by rintro rfl; rw [hk] at hkk; cases hkk
 have hno:m.own kk=none:=R.zZ kk hkk
 obtain ⟨d1,d2,d3⟩:=R.bn.ok k x hk
 obtain ⟨dl,dj⟩:=d3 j hj
 have hown:∀ q B,upd m.own kk (m.inn k j) q=some B->(q=kk/\m.inn k j=some B)\/(q≠kk/\m.own q=some B):=λq B h=>by
  simp only [upd] at h
  split at h
  ·exact .inl ⟨by assumption,h⟩
  exact .inr ⟨by assumption,h⟩
 have jv:∀ q i B,(if q=k/\i=j then none else m.inn q i)=some B->¬ (q=k/\i=j)/\m.inn q i=some B:=λq i B h=>by
  split at h
  ·cases h
  exact ⟨by assumption,h⟩
 have hsub:∀ B,fP cx m B->fP cx ⟨upd m.own kk (m.inn k j),m.box,λq i=>if q=k/\i=j then none else m.inn q i,m.mp⟩ B:=λB h=>⟨h.1,λq hq=>by
  rcases hown q B hq with ⟨_,e⟩ | ⟨_,e⟩
  ·exact h.2.2.2 _ _ e
  exact h.2.1 q e,h.2.2.1,λq i hq=>h.2.2.2 q i (jv q i B hq).2⟩
 have hext:Ext w w (fP cx m) (fP cx ⟨upd m.own kk (m.inn k j),m.box,λq i=>if q=k/\i=j then none else m.inn q i,m.mp⟩):=⟨Nat.le_refl _,λ_ _ _=>rfl,λB _ h=>hsub B h⟩
 have hm:Move cx m w (lk st.lb) ⟨upd m.own kk (m.inn k j),m.box,λq i=>if q=k/\i=j then none else m.inn q i,m.mp⟩ w (lk ((kk,.owned (yd x j))::(k,.deep (x.setAt j 0 [.undef]))::st.lb)):=by
  refine ⟨hext,λ_ _ h=>h,λq=> ?_⟩
  by_cases e:q=kk
  ·subst e; simp [fZ,hkk]
  by_cases e2:q=k
  ·subst e2
   simp only [fZ,hk,aS e,aX,bF e]
   exact .inr (.inl ⟨(x.setAt j 0 [.undef]).gK,rfl,(by first | rfl | trivial),(by first | rfl | trivial),(by first | rfl | trivial),λB _=> .of_eq rfl⟩)
  have:=gZ (cx:=cx) (st:=st) (m:=m) (m':=m) (w:=w) (w':=w) (λ_ _ h=>h) (λ_ h _=>h) (λk B _=> .of_eq rfl) rfl q
  simp only [fZ,aS e,aS e2,bF e] at this ⊢
  cases hl:lk st.lb q with
  | none=>trivial
  | some L=>
   simp only [hl] at this ⊢
   cases L with
   | owned z=>exact .inr (.inl ⟨z,(by first | rfl | trivial),(by first | rfl | trivial),(by first | rfl | trivial),(by first | rfl | trivial),λB _=> .of_eq rfl⟩)
   | deep z=>exact .inr (.inl ⟨z.gK,(by first | rfl | trivial),(by first | rfl | trivial),(by first | rfl | trivial),(by first | rfl | trivial),λB _=> .of_eq rfl⟩)
   | shared z=>simp
   | dead=>rfl
   | set z=>exact .inr ⟨z,(by first | rfl | trivial),(by first | rfl | trivial)⟩
 refine R.jC (.refl _) hm (λ_ _=>rfl) (.refl _) (λb cs hb=> ?_) R.gI (λq z hz=> ?_) (λq hq=> ?_)
  ⟨λq z hz=> ?_,λq i B h=> ?_,λq i B h=>R.bn.blk _ _ _ (jv _ _ _ h).2,λq i q' i' B h h'=>R.bn.inj _ _ _ _ _ (jv _ _ _ h).2 (jv _ _ _ h').2,λq i k' B h h'=> ?_,λq i b B h=>R.bn.box _ _ _ _ (jv _ _ _ h).2⟩ (λq B h=> ?_) R.gu (λq q' B h h'=> ?_) R.kS (λq b B h=> ?_)
 ·obtain ⟨B,c,T,h1,h2,h3,h4⟩:=R.boxes b cs hb
  refine ⟨B,c,T,h1,h2,h3,λj hj=> ?_⟩
  obtain ⟨u,hu,hr⟩:=h4 j hj
  exact ⟨u,hu,hr.move hm⟩
 ·by_cases e:q=kk
  ·subst e
   rw [aX] at hz
   obtain rfl:=Option.some.inj hz
   refine ⟨hy,λB h=> ?_⟩
   simp only [upd_same] at h
   rcases dj with ⟨q1,_⟩ | ⟨_,_,q5⟩
   ·exact (OY q1 hy).elim
   exact (q5 B h).ext hext rfl
  rw [aS e] at hz
  by_cases e2:q=k
  ·subst e2
   rw [aX] at hz
   obtain rfl:=Option.some.inj hz
   refine ⟨rfl,λB h=> ?_⟩
   simp only [bF e] at h
   exact Row.ext (x:=x.gK) hext rfl ((R.nG q x.gK (by rw [hk]; rfl)).2 B h)
  rw [aS e2] at hz
  refine ⟨(R.nG q z hz).1,λB h=> ?_⟩
  simp only [bF e] at h
  exact ((R.nG q z hz).2 B h).ext hext rfl
 ·have e:q≠kk:=by rintro rfl; rw [aX] at hq; cases hq
  rw [aS e] at hq
  have e2:q≠k:=by rintro rfl; rw [aX] at hq; cases hq
  rw [aS e2] at hq
  simp only [bF e]
  exact R.gX q hq
 ·have e:q≠kk:=by rintro rfl; rw [aX] at hz; cases hz
  rw [aS e] at hz
  by_cases e2:q=k
  ·subst e2
   rw [aX] at hz
   cases hz
   refine ⟨rfl,d2,λi hi=> ?_⟩
   obtain ⟨h1,h2⟩:=d3 i hi
   refine ⟨wG dl h1,?_⟩
   unfold Oz
   rw [FN dl]
   by_cases ei:i=j
   ·subst ei
    rw [if_pos rfl]
    exact .inl ⟨rfl,by simp⟩
   rw [if_neg ei]
   rcases h2 with ⟨q1,q2⟩ | ⟨q1,⟨B,u,q2,q3,q4⟩,q5⟩
   ·exact .inl ⟨q1,by simp [ei,q2]⟩
   refine .inr ⟨q1,⟨B,u,by simp only [bF e]; exact q2,q3,by simp only [ei,and_false,if_false]; exact q4⟩,λB' h'=>(q5 B' (by simpa [ei] using h')).ext hext rfl⟩
  rw [aS e2] at hz
  obtain ⟨g1,g2,g3⟩:=R.bn.ok q z hz
  refine ⟨g1,g2,λi hi=>⟨(g3 i hi).1,?_⟩⟩
  rcases (g3 i hi).2 with ⟨q1,q2⟩ | ⟨q1,⟨B,u,q2,q3,q4⟩,q5⟩
  ·exact .inl ⟨q1,by simp [e2,q2]⟩
  refine .inr ⟨q1,⟨B,u,by simp only [bF e]; exact q2,q3,by simp only [e2,false_and,if_false]; exact q4⟩,λB' h'=>(q5 B' (by simpa [e2] using h')).ext hext rfl⟩
 ·obtain ⟨e,h⟩:=jv _ _ _ h
  obtain ⟨z,h1,h2⟩:=R.bn.only _ _ _ h
  have e1:q≠kk:=by rintro rfl; rw [hkk] at h1; cases h1
  by_cases e2:q=k
  ·subst e2
   rw [hk] at h1; cases h1
   exact ⟨x.setAt j 0 [.undef],by rw [aS e1,aX],h2⟩
  exact ⟨z,by rw [aS e1,aS e2]; exact h1,h2⟩
 ·obtain ⟨e,h⟩:=jv _ _ _ h
  rcases hown k' B h' with ⟨_,g⟩ | ⟨_,g⟩
  ·exact e (R.bn.inj _ _ _ _ _ h g)
  exact R.bn.own _ _ _ _ h g
 ·rcases hown q B h with ⟨_,g⟩ | ⟨_,g⟩
  ·exact R.bn.blk _ _ _ g
  exact R.dK q B g
 ·rcases hown q B h with ⟨e,g⟩ | ⟨e,g⟩<;>rcases hown q' B h' with ⟨e',g'⟩ | ⟨e',g'⟩
  ·rw [e,e']
  ·exact (R.bn.own _ _ _ _ g g').elim
  ·exact (R.bn.own _ _ _ _ g' g).elim
  exact R.je _ _ _ g g'
 rcases hown q B h with ⟨_,g⟩ | ⟨_,g⟩
 ·exact R.bn.box _ _ _ _ g
 exact R.sU q b B g
theorem Rel.ak3 (R:Rel cx st m a w) {k kk j B:Nat} {x y:D} {u:Value} (hk:lk st.lb k=some (.deep x)) (hkk:lk st.lb kk=some (.owned y)) (hj:j<x.len) (hB:m.own k=some B)
 (he:dS w w') (hsz:w'.heap.size=w.heap.size) (hold:∀ B',B'≠B->w'.heap[B']? =w.heap[B']?) (hkept:qh w w' B)
 (hcell:w'.cell? ⟨B,j,none⟩=some u) (hcells:∀ i,i≠j->w'.cell? ⟨B,i,none⟩=w.cell? ⟨B,i,none⟩) (hu:nN w (m.own kk) y u) (hone:One u) :
 Rel cx ⟨st.sl,st.bx,(kk,.dead)::(k,.deep (x.setAt j 0 [y]))::st.lb⟩ ⟨upd m.own kk none,m.box,λq i=>if q=k/\i=j then m.own kk else m.inn q i,m.mp⟩ a w':=by
 have hne:kk≠k:=by rintro rfl; rw [hk] at hkk; cases hkk
 obtain ⟨d1,d2,d3⟩:=R.bn.ok k x hk
 obtain ⟨dl,dj⟩:=d3 j hj
 obtain ⟨ys,yr⟩:=R.owned kk y hkk
 have hown:∀ q B',upd m.own kk none q=some B'->q≠kk/\m.own q=some B':=λq B' h=>by
  simp only [upd] at h
  split at h
  ·cases h
  exact ⟨by assumption,h⟩
 have jv:∀ q i B',(if q=k/\i=j then m.own kk else m.inn q i)=some B'->(q=k/\i=j/\m.own kk=some B')\/(¬ (q=k/\i=j)/\m.inn q i=some B'):=λq i B' h=>by
  split at h
  ·rename_i e; exact .inl ⟨e.1,e.2,h⟩
  exact .inr ⟨by assumption,h⟩
 have hS:∀ B',fP cx m B'->B'≠B:=λB' h e=>by subst e; exact h.2.1 k hB
 have hne2:∀ q B',m.own q=some B'->q≠k->B'≠B:=λq B' h e e2=>by subst e2; exact e (R.je _ _ _ h hB)
 have UJ:∀ q i B',m.inn q i=some B'->B'≠B:=λq i B' h e=>by subst e; exact R.bn.own _ _ _ _ h hB
 have hsub:∀ B',fP cx m B'->fP cx ⟨upd m.own kk none,m.box,λq i=>if q=k/\i=j then m.own kk else m.inn q i,m.mp⟩ B':=λB' h=>⟨h.1,λq hq=>h.2.1 q (hown q B' hq).2,h.2.2.1,λq i hq=>by
  rcases jv q i B' hq with ⟨_,_,g⟩ | ⟨_,g⟩
  ·exact h.2.1 _ g
  exact h.2.2.2 _ _ g⟩
 have hext:Ext w w' (fP cx m) (fP cx ⟨upd m.own kk none,m.box,λq i=>if q=k/\i=j then m.own kk else m.inn q i,m.mp⟩):=⟨by omega,λB' _ h=>hold B' (hS B' h),λB' _ h=>hsub B' h⟩
 have hm:Move cx m w (lk st.lb) ⟨upd m.own kk none,m.box,λq i=>if q=k/\i=j then m.own kk else m.inn q i,m.mp⟩ w' (lk ((kk,.dead)::(k,.deep (x.setAt j 0 [y]))::st.lb)):=by
  refine ⟨hext,λ_ _ h=>h,λq=> ?_⟩
  by_cases e:q=kk
  ·subst e; simp only [fZ,hkk,aX]; exact .inl trivial
  by_cases e2:q=k
  ·subst e2
   simp only [fZ,hk,aS e,aX,bF e]
   exact .inr (.inl ⟨(x.setAt j 0 [y]).gK,rfl,(by first | rfl | trivial),(by first | rfl | trivial),(by first | rfl | trivial),λB' h=>by rw [hB] at h; obtain rfl:=Option.some.inj h; exact hkept⟩)
  have:=gZ (cx:=cx) (st:=st) (m:=m) (m':=m) (w:=w) (w':=w) (λ_ _ h=>h) (λ_ h _=>h) (λk B _=> .of_eq rfl) rfl q
  simp only [fZ,aS e,aS e2,bF e] at this ⊢
  cases hl:lk st.lb q with
  | none=>trivial
  | some L=>
   simp only [hl] at this ⊢
   cases L with
   | owned z=>exact .inr (.inl ⟨z,(by first | rfl | trivial),(by first | rfl | trivial),(by first | rfl | trivial),(by first | rfl | trivial),λB' h=> .of_eq (hold B' (hne2 q B' h e2))⟩)
   | deep z=>exact .inr (.inl ⟨z.gK,(by first | rfl | trivial),(by first | rfl | trivial),(by first | rfl | trivial),(by first | rfl | trivial),λB' h=> .of_eq (hold B' (hne2 q B' h e2))⟩)
   | shared z=>simp
   | dead=>rfl
   | set z=>exact .inr ⟨z,(by first | rfl | trivial),(by first | rfl | trivial)⟩
 have hb0:cx.w0.heap.size<=B:=(R.dK _ B hB).1
 refine R.jC he hm (λB' h=>hold B' (by omega)) (R.Af hB hold) (λb cs hb=> ?_) R.gI (λq z hz=> ?_) (λq hq=> ?_)
  ⟨λq z hz=> ?_,λq i B' h=> ?_,λq i B' h=> ?_,λq i q' i' B' h h'=> ?_,λq i k' B' h h'=> ?_,λq i b B' h=> ?_⟩ (λq B' h=>by rw [hsz]; exact R.dK q B' (hown q B' h).2) (λb B' h=>by rw [hsz]; exact R.gu b B' h) (λq q' B' h h'=>R.je _ _ _ (hown q B' h).2 (hown q' B' h').2) R.kS (λq b B' h=>R.sU q b B' (hown q B' h).2)
 ·obtain ⟨B',c,T,h1,h2,h3,h4⟩:=R.boxes b cs hb
  refine ⟨B',c,T,h1,by rw [hold B' (λe=>R.sU k b B' (e▸hB) h1)]; exact h2,h3,λj hj=> ?_⟩
  obtain ⟨u,hu,hr⟩:=h4 j hj
  exact ⟨u,hu,hr.move hm⟩
 ·have e:q≠kk:=by rintro rfl; rw [aX] at hz; cases hz
  rw [aS e] at hz
  by_cases e2:q=k
  ·subst e2
   rw [aX] at hz
   obtain rfl:=Option.some.inj hz
   refine ⟨rfl,λB' h=> ?_⟩
   obtain rfl:B'=B:=by have:=(hown q B' h).2; rw [hB] at this; exact (Option.some.inj this).symm
   obtain ⟨c,T,hc,_,hrow⟩:=(R.nG q x.gK (by rw [hk]; rfl)).2 B' hB
   obtain ⟨c',hc',hsz'⟩:=hkept c T hc
   refine ⟨c',T,hc',rfl,λi hi=>⟨by show 1=x.stride; exact d2.symm,λr hr=> ?_⟩⟩
   have hr':r<x.stride:=hr
   obtain rfl:r=0:=by omega
   have e3:i*(D.gK (x.setAt j 0 [y])).stride+0=i:=by show i*x.stride+0=i; rw [d2]; omega
   rw [e3]
   by_cases ei:i=j
   ·subst ei
    simp only [World.cell?,hc'] at hcell
    exact ⟨u,by simpa using hcell,.undef _ hone⟩
   obtain ⟨v,hv,hd⟩:=(hrow i hi).2 0 (by show 0<x.stride; omega)
   have e4:i*x.gK.stride+0=i:=by show i*x.stride+0=i; rw [d2]; omega
   rw [e4] at hv
   have:=hcells i ei
   simp only [World.cell?,hc',hc] at this
   exact ⟨v,by rw [<- hv]; simpa using this,.undef _ hd.one⟩
  rw [aS e2] at hz
  refine ⟨(R.nG q z hz).1,λB' h=> ?_⟩
  exact ((R.nG q z hz).2 B' (hown q B' h).2).ext hext (hold B' (hne2 q B' (hown q B' h).2 e2))
 ·by_cases e:q=kk
  ·subst e; simp only [upd_same]
  rw [aS e] at hq
  have e2:q≠k:=by rintro rfl; rw [aX] at hq; cases hq
  rw [aS e2] at hq
  simp only [bF e]
  exact R.gX q hq
 ·have e:q≠kk:=by rintro rfl; rw [aX] at hz; cases hz
  rw [aS e] at hz
  by_cases e2:q=k
  ·subst e2
   rw [aX] at hz
   cases hz
   refine ⟨rfl,d2,λi hi=> ?_⟩
   obtain ⟨h1,h2⟩:=d3 i hi
   refine ⟨wG dl h1,?_⟩
   unfold Oz
   rw [FN dl]
   by_cases ei:i=j
   ·subst ei
    rw [if_pos rfl]
    refine .inr ⟨ys,⟨B,u,by simp only [bF e]; exact hB,hcell,by simp only [and_self,if_true]; exact hu.same (λB' h=>hold B' (hne2 _ B' h (Ne.symm e)))⟩,λB' h'=> ?_⟩
    have h':m.own kk=some B':=by simpa using h'
    exact (yr B' h').ext hext (hold B' (hne2 _ B' h' (Ne.symm e)))
   rw [if_neg ei]
   rcases h2 with ⟨q1,q2⟩ | ⟨q1,⟨B',v,q2,q3,q4⟩,q5⟩
   ·exact .inl ⟨q1,by simp [ei,q2]⟩
   rw [hB] at q2; cases q2
   refine .inr ⟨q1,⟨B,v,by simp only [bF e]; exact hB,by rw [hcells i ei]; exact q3,by simp only [ei,and_false,if_false]; exact q4.same (λB' h=>hold B' (UJ _ _ B' h))⟩,λB' h'=> ?_⟩
   have h':m.inn q i=some B':=by simpa [ei] using h'
   exact (q5 B' h').ext hext (hold B' (UJ _ _ B' h'))
  rw [aS e2] at hz
  obtain ⟨g1,g2,g3⟩:=R.bn.ok q z hz
  refine ⟨g1,g2,λi hi=>⟨(g3 i hi).1,?_⟩⟩
  rcases (g3 i hi).2 with ⟨q1,q2⟩ | ⟨q1,⟨B',v,q2,q3,q4⟩,q5⟩
  ·exact .inl ⟨q1,by simp [e2,q2]⟩
  refine .inr ⟨q1,⟨B',v,by simp only [bF e]; exact q2,by rw [cell_of_heap (hold B' (hne2 q B' q2 e2))]; exact q3,by simp only [e2,false_and,if_false]; exact q4.same (λB' h=>hold B' (UJ _ _ B' h))⟩,λB' h'=> ?_⟩
  have h':m.inn q i=some B':=by simpa [e2] using h'
  exact (q5 B' h').ext hext (hold B' (UJ _ _ B' h'))
 ·rcases jv _ _ _ h with ⟨rfl,rfl,_⟩ | ⟨e,h⟩
  ·exact ⟨x.setAt i 0 [y],by rw [aS (Ne.symm hne),aX],hj⟩
  obtain ⟨z,h1,h2⟩:=R.bn.only _ _ _ h
  have e1:q≠kk:=by rintro rfl; rw [hkk] at h1; cases h1
  by_cases e2:q=k
  ·subst e2
   rw [hk] at h1; cases h1
   exact ⟨x.setAt j 0 [y],by rw [aS e1,aX],h2⟩
  exact ⟨z,by rw [aS e1,aS e2]; exact h1,h2⟩
 ·rw [hsz]
  rcases jv _ _ _ h with ⟨_,_,g⟩ | ⟨_,g⟩
  ·exact R.dK _ _ g
  exact R.bn.blk _ _ _ g
 ·rcases jv _ _ _ h with ⟨e1,e2,g⟩ | ⟨_,g⟩<;>rcases jv _ _ _ h' with ⟨e1',e2',g'⟩ | ⟨_,g'⟩
  ·exact ⟨e1.trans e1'.symm,e2.trans e2'.symm⟩
  ·exact (R.bn.own _ _ _ _ g' g).elim
  ·exact (R.bn.own _ _ _ _ g g').elim
  exact R.bn.inj _ _ _ _ _ g g'
 ·obtain ⟨e',g'⟩:=hown k' B' h'
  rcases jv _ _ _ h with ⟨_,_,g⟩ | ⟨_,g⟩
  ·exact e' (R.je _ _ _ g' g)
  exact R.bn.own _ _ _ _ g g'
 rcases jv _ _ _ h with ⟨_,_,g⟩ | ⟨_,g⟩
 ·exact R.sU _ b B' g
 exact R.bn.box _ _ _ _ g
theorem Rel.PX (R:Rel cx st m a w) {k k' B:Nat} {x:D} (t:Nat) {c:Array Value} {T:TypeId} (hk:lk st.lb k=some (.deep x)) (hk':lk st.lb k'=none) (he:dS w w') (hs:w.heap.size<=w'.heap.size)
 (hB:m.own k=some B\/w.heap.size<=B) (hlt:B<w'.heap.size) (hold:∀ B',B'<w.heap.size->B'≠B->w'.heap[B']? =w.heap[B']?) (hrec:gV w w')
 (hc:w'.heap[B]? =some (.cells c T (0,0))) (hcells:∀ j B0 u,j<x.len->m.own k=some B0->w.cell? ⟨B0,j,none⟩=some u->c[j]? =some u) (hnil:c[x.len]? =some (.slice none 0 0)) (hex:x.len≠0->∃ B0,m.own k=some B0) :
 Rel cx ⟨st.sl,st.bx,(k',.deep (x.app [.sl t 0 λ_=>[]]))::(k,.dead)::st.lb⟩ ⟨upd (upd m.own k none) k' (some B),m.box,λq i=>if q=k' then m.inn k i else if q=k then none else m.inn q i,m.mp⟩ a w':=by
 have hkk:k≠k':=by rintro rfl; rw [hk] at hk'; cases hk'
 obtain ⟨d1,d2,d3⟩:=R.bn.ok k x hk
 have awq:∀ j,m.inn k' j=none:=λj=>by
  cases h:m.inn k' j with
  | none=>rfl
  | some B=>obtain ⟨y,h1,_⟩:=R.bn.only k' j B h; rw [hk'] at h1; cases h1
 have hown:∀ q B',upd (upd m.own k none) k' (some B) q=some B'->(q=k'/\B'=B)\/(q≠k'/\q≠k/\m.own q=some B'):=λq B' h=>by
  simp only [upd] at h
  split at h
  ·exact .inl ⟨by assumption,by simpa using h.symm⟩
  split at h
  ·cases h
  exact .inr ⟨by assumption,by assumption,h⟩
 have jv:∀ q i B',(if q=k' then m.inn k i else if q=k then none else m.inn q i)=some B'->(q=k'/\m.inn k i=some B')\/(q≠k'/\q≠k/\m.inn q i=some B'):=λq i B' h=>by
  split at h
  ·exact .inl ⟨by assumption,h⟩
  split at h
  ·cases h
  exact .inr ⟨by assumption,by assumption,h⟩
 have hback:∀ q i B',m.inn q i=some B'->q≠k':=λq i B' h e=>by subst e; rw [awq i] at h; cases h
 have hnB:∀ B',B'<w.heap.size->(∀ B0,m.own k=some B0->B'≠B0)->B'≠B:=λB' h1 h2 e=>by
  subst e
  rcases hB with h | h
  ·exact h2 _ h rfl
  omega
 have hSB:∀ B',B'<w.heap.size->fP cx m B'->B'≠B:=λB' h1 h=>hnB B' h1 (λB0 h0 e=>by subst e; exact h.2.1 k h0)
 have ZJ:∀ q B',m.own q=some B'->q≠k->B'≠B:=λq B' h e=>hnB B' (R.dK q B' h).2 (λB0 h0 e2=>by subst e2; exact e (R.je _ _ _ h h0))
 have UJ:∀ q i B',m.inn q i=some B'->B'≠B:=λq i B' h=>hnB B' (R.bn.blk _ _ _ h).2 (λB0 h0 e2=>by subst e2; exact R.bn.own _ _ _ _ h h0)
 have awo:∀ b B',m.box b=some B'->B'≠B:=λb B' h=>hnB B' (R.gu b B' h).2 (λB0 h0 e2=>by subst e2; exact R.sU _ _ _ h0 h)
 have hsub:∀ B',B'<w.heap.size->fP cx m B'->fP cx ⟨upd (upd m.own k none) k' (some B),m.box,λq i=>if q=k' then m.inn k i else if q=k then none else m.inn q i,m.mp⟩ B':=λB' h1 h=>⟨h.1,λq hq=>by
  rcases hown q B' hq with ⟨_,e⟩ | ⟨_,_,g⟩
  ·exact hSB B' h1 h e
  ·exact h.2.1 q g,h.2.2.1,λq i hq=>by
  rcases jv q i B' hq with ⟨_,g⟩ | ⟨_,_,g⟩
  ·exact h.2.2.2 _ _ g
  exact h.2.2.2 _ _ g⟩
 have hext:Ext w w' (fP cx m) (fP cx ⟨upd (upd m.own k none) k' (some B),m.box,λq i=>if q=k' then m.inn k i else if q=k then none else m.inn q i,m.mp⟩):=⟨hs,λB' h1 h=>hold B' h1 (hSB B' h1 h),λB' h1 h=>hsub B' h1 h⟩
 have hI:∀ q i B',m.inn q i=some B'->w'.heap[B']? =w.heap[B']? :=λq i B' h=>hold B' (R.bn.blk _ _ _ h).2 (UJ q i B' h)
 have hm:Move cx m w (lk st.lb) ⟨upd (upd m.own k none) k' (some B),m.box,λq i=>if q=k' then m.inn k i else if q=k then none else m.inn q i,m.mp⟩ w' (lk ((k',.deep (x.app [.sl t 0 λ_=>[]]))::(k,.dead)::st.lb)):=by
  refine ⟨hext,λ_ _ h=>h,λq=> ?_⟩
  by_cases e:q=k'
  ·subst e; simp [fZ,hk']
  by_cases e2:q=k
  ·subst e2; simp only [fZ,hk,aS e,aX]; exact .inl trivial
  have:=gZ (cx:=cx) (st:=st) (m:=m) (m':=m) (w:=w) (w':=w) (λ_ _ h=>h) (λ_ h _=>h) (λk B _=> .of_eq rfl) rfl q
  simp only [fZ,aS e,aS e2,bF e,bF e2] at this ⊢
  cases hl:lk st.lb q with
  | none=>trivial
  | some L=>
   simp only [hl] at this ⊢
   cases L with
   | owned z=>exact .inr (.inl ⟨z,(by first | rfl | trivial),(by first | rfl | trivial),(by first | rfl | trivial),(by first | rfl | trivial),λB' h=> .of_eq (hold B' (R.dK q B' h).2 (ZJ q B' h e2))⟩)
   | deep z=>exact .inr (.inl ⟨z.gK,(by first | rfl | trivial),(by first | rfl | trivial),(by first | rfl | trivial),(by first | rfl | trivial),λB' h=> .of_eq (hold B' (R.dK q B' h).2 (ZJ q B' h e2))⟩)
   | shared z=>simp
   | dead=>rfl
   | set z=>exact .inr ⟨z,(by first | rfl | trivial),(by first | rfl | trivial)⟩
 have hlo:cx.w0.heap.size<=B:=by
  rcases hB with h | h
  ·exact (R.dK _ _ h).1
  exact Nat.le_trans R.size h
 refine R.jC he hm (λB' h=>hold B' (Nat.lt_of_lt_of_le h R.size) (by omega)) hrec (λb cs hb=> ?_) R.gI (λq z hz=> ?_) (λq hq=> ?_)
  ⟨λq z hz=> ?_,λq i B' h=> ?_,λq i B' h=> ?_,λq i q' i' B' h h'=> ?_,λq i k2 B' h h'=> ?_,λq i b B' h=> ?_⟩ (λq B' h=> ?_) (λb B' h=>⟨(R.gu b B' h).1,Nat.lt_of_lt_of_le (R.gu b B' h).2 hs⟩) (λq q' B' h h'=> ?_) R.kS (λq b B' h h'=> ?_)
 ·obtain ⟨B',c,T,h1,h2,h3,h4⟩:=R.boxes b cs hb
  refine ⟨B',c,T,h1,by rw [hold B' (R.gu b B' h1).2 (awo b B' h1)]; exact h2,h3,λj hj=> ?_⟩
  obtain ⟨u,hu,hr⟩:=h4 j hj
  exact ⟨u,hu,hr.move hm⟩
 ·by_cases e:q=k'
  ·subst e
   rw [aX] at hz
   obtain rfl:=Option.some.inj hz
   refine ⟨rfl,λB' h=> ?_⟩
   simp only [upd_same] at h
   obtain rfl:=Option.some.inj h
   refine ⟨c,T,hc,rfl,λi hi=>⟨by show 1=x.stride; exact d2.symm,λr hr=> ?_⟩⟩
   have hr':r<x.stride:=hr
   obtain rfl:r=0:=by omega
   have e3:i*(D.gK (x.app [.sl t 0 λ_=>[]])).stride+0=i:=by show i*x.stride+0=i; rw [d2]; omega
   rw [e3]
   have hi':i<x.len+1:=hi
   by_cases ei:i=x.len
   ·subst ei; exact ⟨_,hnil,.undef _ ⟨rfl,rfl⟩⟩
   obtain ⟨B0,h0⟩:=hex (by omega)
   obtain ⟨c0,T0,hc0,_,hrow⟩:=(R.nG k x.gK (by rw [hk]; rfl)).2 B0 h0
   obtain ⟨v,hv,hd⟩:=(hrow i (by show i<x.len; omega)).2 0 (by show 0<x.stride; omega)
   have e4:i*x.gK.stride+0=i:=by show i*x.stride+0=i; rw [d2]; omega
   rw [e4] at hv
   exact ⟨v,hcells i B0 v (by omega) h0 (by simp [World.cell?,hc0,hv]),.undef _ hd.one⟩
  rw [aS e] at hz
  have e2:q≠k:=by rintro rfl; rw [aX] at hz; cases hz
  rw [aS e2] at hz
  refine ⟨(R.nG q z hz).1,λB' h=> ?_⟩
  simp only [bF e,bF e2] at h
  exact ((R.nG q z hz).2 B' h).ext hext (hold B' (R.dK q B' h).2 (ZJ q B' h e2))
 ·have e:q≠k':=by rintro rfl; rw [aX] at hq; cases hq
  rw [aS e] at hq
  by_cases e2:q=k
  ·subst e2; simp only [bF e,upd_same]
  rw [aS e2] at hq
  simp only [bF e,bF e2]
  exact R.gX q hq
 ·by_cases e:q=k'
  ·subst e
   rw [aX] at hz
   cases hz
   refine ⟨rfl,d2,λi hi=> ?_⟩
   have hi':i<x.len+1:=hi
   have en:(x.app [.sl t 0 λ_=>[]]).nth i=if i=x.len then [.sl t 0 λ_=>[]] else x.nth i:=rfl
   unfold Oz yd
   rw [en]
   by_cases ei:i=x.len
   ·subst ei
    rw [if_pos rfl]
    have hn:m.inn k x.len=none:=by
     cases h:m.inn k x.len with
     | none=>rfl
     | some B2=>obtain ⟨y,h1,h2⟩:=R.bn.only k _ B2 h; rw [hk] at h1; cases h1; omega
    refine ⟨rfl,.inr ⟨rfl,⟨B,.slice none 0 0,by simp only [upd_same],by simp only [World.cell?,hc]; exact hnil,by simp only [if_true,hn]; exact ⟨rfl,rfl⟩⟩,λB' h'=> ?_⟩⟩
    simp only [if_true,hn] at h'; cases h'
   rw [if_neg ei]
   obtain ⟨h1,h2⟩:=d3 i (by omega)
   refine ⟨h1,?_⟩
   rcases h2 with ⟨q1,q2⟩ | ⟨q1,⟨B0,v,q2,q3,q4⟩,q5⟩
   ·exact .inl ⟨q1,by simp [q2]⟩
   refine .inr ⟨q1,⟨B,v,by simp only [upd_same],?_,by simp only [if_true]; exact q4.same (hI k i)⟩,λB' h'=> ?_⟩
   ·have:=hcells i B0 v (by omega) q2 q3
    simp [World.cell?,hc,this]
   have h':m.inn k i=some B':=by simpa using h'
   exact (q5 B' h').ext hext (hI k i B' h')
  rw [aS e] at hz
  have e2:q≠k:=by rintro rfl; rw [aX] at hz; cases hz
  rw [aS e2] at hz
  obtain ⟨g1,g2,g3⟩:=R.bn.ok q z hz
  refine ⟨g1,g2,λi hi=>⟨(g3 i hi).1,?_⟩⟩
  rcases (g3 i hi).2 with ⟨q1,q2⟩ | ⟨q1,⟨B',v,q2,q3,q4⟩,q5⟩
  ·exact .inl ⟨q1,by simp only [if_neg e,if_neg e2]; exact q2⟩
  refine .inr ⟨q1,⟨B',v,by simp only [bF e,bF e2]; exact q2,by rw [cell_of_heap (hold B' (R.dK q B' q2).2 (ZJ q B' q2 e2))]; exact q3,by simp only [if_neg e,if_neg e2]; exact q4.same (hI q i)⟩,λB' h'=> ?_⟩
  have h':m.inn q i=some B':=by simpa only [if_neg e,if_neg e2] using h'
  exact (q5 B' h').ext hext (hI q i B' h')
 ·rcases jv _ _ _ h with ⟨e,g⟩ | ⟨e,e2,g⟩
  ·subst e
   obtain ⟨z,h1,h2⟩:=R.bn.only _ _ _ g
   rw [hk] at h1; cases h1
   exact ⟨_,aX _ _ _,by show i<x.len+1; omega⟩
  obtain ⟨z,h1,h2⟩:=R.bn.only _ _ _ g
  exact ⟨z,by rw [aS e,aS e2]; exact h1,h2⟩
 ·rcases jv _ _ _ h with ⟨_,g⟩ | ⟨_,_,g⟩<;>exact ⟨(R.bn.blk _ _ _ g).1,Nat.lt_of_lt_of_le (R.bn.blk _ _ _ g).2 hs⟩
 ·rcases jv _ _ _ h with ⟨e,g⟩ | ⟨e,e2,g⟩<;>rcases jv _ _ _ h' with ⟨e',g'⟩ | ⟨e',e2',g'⟩
  ·exact ⟨e.trans e'.symm,(R.bn.inj _ _ _ _ _ g g').2⟩
  ·exact (e2' (R.bn.inj _ _ _ _ _ g' g).1).elim
  ·exact (e2 (R.bn.inj _ _ _ _ _ g g').1).elim
  exact R.bn.inj _ _ _ _ _ g g'
 ·have hg:∃ q2 i2,m.inn q2 i2=some B':=by
   rcases jv _ _ _ h with ⟨_,g⟩ | ⟨_,_,g⟩<;>exact ⟨_,_,g⟩
  obtain ⟨q2,i2,g⟩:=hg
  rcases hown k2 B' h' with ⟨_,e⟩ | ⟨_,_,g'⟩
  ·exact UJ _ _ _ g e
  exact R.bn.own _ _ _ _ g g'
 ·rcases jv _ _ _ h with ⟨_,g⟩ | ⟨_,_,g⟩<;>exact R.bn.box _ _ _ _ g
 ·rcases hown q B' h with ⟨_,rfl⟩ | ⟨_,_,g⟩
  ·exact ⟨hlo,hlt⟩
  exact ⟨(R.dK q B' g).1,Nat.lt_of_lt_of_le (R.dK q B' g).2 hs⟩
 ·rcases hown q B' h with ⟨e,g⟩ | ⟨e,e2,g⟩<;>rcases hown q' B' h' with ⟨e',g'⟩ | ⟨e',e2',g'⟩
  ·rw [e,e']
  ·exact (ZJ _ _ g' e2' g).elim
  ·exact (ZJ _ _ g e2 g').elim
  exact R.je _ _ _ g g'
 rcases hown q B' h with ⟨_,e⟩ | ⟨_,_,g⟩
 ·exact awo b B' h' e
 exact R.sU q b B' g h'
end Go.dR
set_option linter.unusedVariables false
set_option linter.unusedSimpArgs false
namespace Go.dR
def bad:Rd Out:= .ret ⟨False,default,[]⟩
def rP (v:AV):Rd Out:= .ret ⟨True,v,[]⟩
structure TI where
 size:Nat
 bytes:Nat
 agg:Bool
 zero:List Value
 desc:TypeDesc
 eqn:Option (List Bool):=none
abbrev iT:=Nat->Option TI
def AC.solid:AC->Bool | .undef=>false | _=>true
def AU.solid:AU->Bool | .c x=>x.solid | .agg l=>l.all AC.solid
def eG (x:Operand) (f:AV->Rd Out):Rd Out:=
 match x with
 | .tmp t=> .slot t f
 | .const v=>f (ofValue v)
 | .func g=>f (.c (.clo g []))
 | .global g=>f (.c (.glob g 0))
def ql:List Operand->(List AV->Rd Out)->Rd Out
 | [],f=>f []
 | x::r,f=>eG x λv=>ql r λvs=>f (v::vs)
def Jz (x:AC) (f:D->Rd Out):Rd Out:=
 match x with
 | .d x=>f x
 | .dF=>f (.sl 0 0 λ_=>[])
 | .clo g []=>f (.fn g)
 | .own k=> .lab k fun
  | some (.owned x)=>f x
  | some (.shared x)=>f x
  | _=>bad
 | .dM l 0=>f (.pt true l)
 | _=>bad
def qM:List AC->(List D->Rd Out)->Rd Out
 | [],f=>f []
 | x::r,f=>Jz x λd=>qM r λds=>f (d::ds)
def Ic (x:Cap) (f:List D->Rd Out):Rd Out:=
 match x with
 | .ref b 0=> .box b fun
  | some cs=>qM cs f
  | none=>bad
 | .dM l 0=>f l
 | _=>bad
def lM:List Cap->(List (List D)->Rd Out)->Rd Out
 | [],f=>f []
 | x::r,f=>Ic x λd=>lM r λds=>f (d::ds)
def chunks {α:Type} (s:Nat) (l:List α):Nat->List (List α)
 | 0=>[]
 | n+1=>l.take s::chunks s (l.drop s) n
def aeV (off n s:Nat) (cs:List AC) (f:D->Rd Out):Rd Out:=
 if off+n*s<=cs.length/\0<s then qM ((cs.drop off).take (n*s)) λds=>f (D.ofList s (chunks s ds n)) else bad
def toArg (v:AV) (f:Arg->Rd Out):Rd Out:=
 match v with
 | .u (.c (.clo g caps))=>lM caps λds=>f (.clo g ds)
 | .u (.c (.xg b off n s))=> .box b fun
  | some cs=>aeV off n s cs λd=>f (.c d)
  | none=>bad
 | .u (.c x)=>Jz x λd=>f (.c d)
 | .u (.agg l)=>qM l λds=>f (.agg ds)
 | _=>bad
def mF:List AV->(List Arg->Rd Out)->Rd Out
 | [],f=>f []
 | v::r,f=>toArg v λa=>mF r λas=>f (a::as)
def qC:Nat->Nat->(Nat->Rd Out)->Rd Out
 | 0,_,_=>bad
 | n+1,nm,f=> .lab nm fun
  | none=>f nm
  | some _=>qC n (nm+100000) f
def fU (nm:Nat) (f:Nat->Rd Out):Rd Out:=qC 8 nm f
def qE:Nat->Nat->(Nat->Rd Out)->Rd Out
 | 0,_,_=>bad
 | n+1,nm,f=> .box nm fun
  | none=>f nm
  | some _=>qE n (nm+100000) f
def jU (nm:Nat) (f:Nat->Rd Out):Rd Out:=qE 8 nm f
def bJ:List AC->(List Wr->Rd Out)->Rd Out
 | [],f=>f []
 | .own k::r,f=> .lab k fun
  | some (.owned x)=>bJ r λws=>f (.lab k (.shared x)::ws)
  | some (.shared _)=>bJ r f
  | _=>bad
 | .xg _ _ _ _::_,_=>bad
 | _::r,f=>bJ r f
def xK (lin:Bool) (nm:Nat) (p:Prop) (x:D) (ws:List Wr):Rd Out:=
 if lin then fU nm λk=> .ret ⟨p,.c (.own k),ws++[.lab k (.owned x)]⟩
 else match ws with
  | []=> .ret ⟨p,.c (.d x),[]⟩
  | _=>bad
def ahR (op:BinOp) (k:IntKind) (a b:Int):Option (D×Prop):=
 match op with
 | .add=>some (.int k (k.wrap (a+b)),True)
 | .sub=>some (.int k (k.wrap (a - b)),True)
 | .mul=>some (.int k (k.wrap (a*b)),True)
 | .quo=>some (.int k (k.wrap (a.tdiv b)),b≠0)
 | .rem=>some (.int k (a.tmod b),b≠0)
 | .eql=>some (.bool (a == b),True)
 | .neq=>some (.bool (a != b),True)
 | .lss=>some (.bool (decide (a<b)),True)
 | .leq=>some (.bool (decide (a<=b)),True)
 | .gtr=>some (.bool (decide (a>b)),True)
 | .geq=>some (.bool (decide (a>=b)),True)
 | .shr=>some (.int k (a / 2 ^ b.toNat),0<=b/\b<=(k.bits:Int))
 | _=>none
def tN:List Bool->List AC->List AC->Option Bool
 | [],[],[]=>some true
 | true::ks,.d (.int .i64 a)::r,.d (.int .i64 b)::s=>(tN ks r s).map λe=>(a == b) && e
 | false::ks,.d (.str a)::r,.d (.str b)::s=>(tN ks r s).map λe=>(decide (a=b)) && e
 | _,_,_=>none
def FB (op:BinOp) (a b:ByteArray):Rd Out:=
 match op with
 | .eql=>rP (.c (.d (.bool (decide (a=b)))))
 | .neq=>rP (.c (.d (.bool (!(decide (a=b))))))
 | .add=> .ret ⟨a.size+b.size<=9223372036854775807,.c (.d (.str (a++b))),[]⟩
 | _=>bad
def Hy (ty:iT) (c:Bool) (op:BinOp) (t:Nat) (a b:Bool):Rd Out:=
 match ty t with
 | some { desc:= .interface _,.. } =>
  match op with
  | .eql=> .ret ⟨c=true/\b=false,.c (.d (.bool (!a))),[]⟩
  | .neq=> .ret ⟨c=true/\b=false,.c (.d (.bool a)),[]⟩
  | _=>bad
 | _=>bad
def isConst:Operand->Bool | .const _=>true | _=>false
def KA (ty:iT) (c:Bool) (op:BinOp) (t:Nat) (x y:AV):Rd Out:=
 match x,y with
 | .u (.c (.d (.int j a))),.u (.c (.d (.int k b)))=>
  if j=k then
   match ahR op j a b with
   | some (v,p)=> .ret ⟨p,.c (.d v),[]⟩
   | none=>bad
  else bad
 | .u (.c (.d (.bool a))),.u (.c (.d (.bool b)))=>
  match ty t with
  | some { desc:= .bool,.. } =>
   match op with
   | .eql=>rP (.c (.d (.bool (a == b))))
   | .neq=>rP (.c (.d (.bool (!(a == b)))))
   | _=>bad
  | _=>bad
 | .u (.c (.d (.pt b _))),.u (.c (.d (.pt c _)))=>
  match ty t with
  | some { desc:= .pointer _,.. } =>
   match op with
   | .eql=> .ret ⟨c=false,.c (.d (.bool (!b))),[]⟩
   | .neq=> .ret ⟨c=false,.c (.d (.bool b)),[]⟩
   | _=>bad
  | _=>bad
 | .u (.c (.dM _ _)),.u (.c (.d (.pt c _)))=>
  match ty t with
  | some { desc:= .pointer _,.. } =>
   match op with
   | .eql=> .ret ⟨c=false,.c (.d (.bool false)),[]⟩
   | .neq=> .ret ⟨c=false,.c (.d (.bool true)),[]⟩
   | _=>bad
  | _=>bad
 | .u (.agg l),.u (.agg r)=>
  match ty t with
  | some { eqn:=some ks,.. } =>
   match tN ks l r with
   | some e=>
    match op with
    | .eql=>rP (.c (.d (.bool e)))
    | .neq=>rP (.c (.d (.bool (!e))))
    | _=>bad
   | none=>bad
  | _=>bad
 | .u (.c (.d (.str a))),.u (.c (.d (.str b)))=>FB op a b
 | .u (.c (.d (.err a))),.u (.c (.d (.err b)))=>Hy ty c op t a b
 | _,_=>bad
def jf (v:AV):Option (AU×Bool):=
 match v with
 | .u x=>some (x,true)
 | .cnd q x=>some (x,q)
 | .Jy _=>none
def tK (c a b:AV):Rd Out:=
 match c,jf a,jf b with
 | .u (.c (.d (.bool p))),some (x,q),some (y,r)=>
  match x,y with
  | .c (.d (.bool x)),.c (.d (.bool y))=> .ret ⟨(p=true->q=true)/\(p=false->r=true),.c (.d (.bool (bif p then x else y))),[]⟩
  | .c (.d (.int j x)),.c (.d (.int k y))=> .ret ⟨(p=true->q=true)/\(p=false->r=true)/\j=k,.c (.d (.int j (bif p then x else y))),[]⟩
  | _,_=>bad
 | _,_,_=>bad
def iF (i:TI) (off:Nat) (l:List AC):Rd Out:=
 if i.agg then .ret ⟨off+i.size<=l.length,.agg ((l.drop off).take i.size),[]⟩
 else .ret ⟨off<l.length,.c (l.getD off .undef),[]⟩
def J4 (i:TI) (b:Bool) (l:List D):Rd Out:=
 if i.agg then .ret ⟨b=true/\0+i.size<=(l.map AC.d).length,.agg (((l.map .d).drop 0).take i.size),[]⟩
 else .ret ⟨b=true/\0<(l.map AC.d).length,.c ((l.map .d).getD 0 .undef),[]⟩
def XA (i:TI) (g off:Nat):Rd Out:=
 match i.agg,lk glb g with
 | false,some l=> .ret ⟨off<l.length,.c (.d (.int .i64 (l.getD off 0))),[]⟩
 | _,_=>match lk ahl g with
  | some l=>iF i off (l.map λs=> .d (.str s))
  | none=>bad
def iZ (ty:iT) (t:Nat) (a:AV):Rd Out:=
 match ty t,a with
 | some i,.u (.c (.ref b off))=> .box b fun
  | some cs=>iF i off cs
  | none=>bad
 | some i,.u (.c (.iE k j off))=> .lab k fun
  | some (.owned x)=>iF i off ((x.nth j).map .d)
  | some (.shared x)=>iF i off ((x.nth j).map .d)
  | _=>bad
 | some i,.u (.c (.dM l off))=>iF i off (l.map .d)
 | some i,.u (.c (.d (.pt b l)))=>J4 i b l
 | some i,.u (.c (.glob g off))=>XA i g off
 | _,_=>bad
def Gi:AC->Option D
 | .d x=>some x
 | .dF=>some (.sl 0 0 λ_=>[])
 | .clo g []=>some (.fn g)
 | _=>none
def oM:List AC->Option (List D)
 | []=>some []
 | x::r=>match Gi x,oM r with
  | some d,some ds=>some (d::ds)
  | _,_=>none
def lG (ty:iT) (t:Nat) (a v:AV):Rd Out:=
 match ty t,v with
 | some i,.u v=>
  match a with
  | .u (.c (.ref b off))=> .box b fun
   | some cs=> .ret ⟨v.cells.length=i.size/\v.solid=true/\off+v.cells.length<=cs.length,default,[.box b (splice cs off v.cells)]⟩
   | none=>bad
  | .u (.c (.iE k j off))=> .lab k fun
   | some (.owned x)=>
    match oM v.cells with
    | some ds=> .ret ⟨v.cells.length=i.size/\v.solid=true/\off+v.cells.length<=x.stride,default,[.lab k (.owned (x.setAt j off ds))]⟩
    | none=>bad
   | _=>bad
  | _=>bad
 | _,_=>bad
def nM (ty:iT) (lin:Bool) (nm t:Nat) (a:AV):Rd Out:=
 match a with
 | .u (.c (.iE k j off))=> .lab k fun
  | some (.deep x)=>match lin,ty t with
   | true,some i=>fU nm λkk=> .ret ⟨i.agg=false/\off=0/\j<x.len/\(yd x j).cu=true,.c (.own kk),[.lab k (.deep (x.setAt j 0 [.undef])),.lab kk (.owned (yd x j))]⟩
   | _,_=>bad
  | _=>iZ ty t a
 | _=>iZ ty t a
def kY (ty:iT) (t:Nat) (a v:AV):Rd Out:=
 match a,v with
 | .u (.c (.iE k j off)),.u (.c (.own kk))=> .lab k fun
  | some (.deep x)=> .lab kk fun
   | some (.owned y)=>match ty t with
    | some i=> .ret ⟨i.size=1/\off=0/\j<x.len,default,[.lab k (.deep (x.setAt j 0 [y])),.lab kk .dead]⟩
    | none=>bad
   | _=>bad
  | _=>bad
 | _,_=>lG ty t a v
def nT (ty:iT) (s f:Nat):Option (Nat×TI):=
 match ty s with
 | some { desc:= .struct fs,.. } =>
  match fs.toList[f]? with
  | some fd=>match ty fd.type with
   | some i=>if i.size=0 then none else some (fd.offset,i)
   | none=>none
  | none=>none
 | _=>none
def ku (ty:iT) (s f:Nat) (a:AV):Rd Out:=
 match nT ty s f,a with
 | some (o,_),.u (.c (.ref b off))=>rP (.c (.ref b (off+o)))
 | some (o,_),.u (.c (.iE k i off))=> .lab k fun
  | some (.owned _)=>rP (.c (.iE k i (off+o)))
  | some (.shared _)=>rP (.c (.iE k i (off+o)))
  | _=>bad
 | some (o,_),.u (.c (.dM l off))=>rP (.c (.dM l (off+o)))
 | some (o,_),.u (.c (.d (.pt b l)))=> .ret ⟨b=true,.c (.dM l o),[]⟩
 | _,_=>bad
def wW (ty:iT) (s f:Nat) (a:AV):Rd Out:=
 match nT ty s f,a with
 | some (o,i),.u (.agg l)=>iF i o l
 | _,_=>bad
def kF (ty:iT) (t:Nat):Option TI:=
 match ty t with
 | some { desc:= .slice e,.. } =>ty e
 | some { desc:= .array _ e,.. } =>ty e
 | _=>none
def iH (ty:iT) (t:Nat) (a ix:AV):Rd Out:=
 match ty t,kF ty t,ix with
 | some { desc:= .slice _,.. },some e,.u (.c (.d (.int _ i)))=>
  match a with
  | .u (.c (.own k))=> .lab k fun
   | some (.owned x)=> .ret ⟨(0<=i/\i<x.len)/\x.stride=e.size,.c (.iE k i.toNat 0),[]⟩
   | some (.shared x)=> .ret ⟨(0<=i/\i<x.len)/\x.stride=e.size,.c (.dM (x.nth i.toNat) 0),[]⟩
   | some (.deep x)=> .ret ⟨(0<=i/\i<x.len)/\x.stride=e.size,.c (.iE k i.toNat 0),[]⟩
   | _=>bad
  | .u (.c (.d x))=> .ret ⟨x.cu=true/\(0<=i/\i<x.len)/\x.stride=e.size,.c (.dM (x.nth i.toNat) 0),[]⟩
  | .u (.c (.xg b off n s))=> .ret ⟨(0<=i/\i<n)/\s=e.size,.c (.ref b (off+i.toNat*s)),[]⟩
  | _=>bad
 | some { desc:= .array n _,.. },some e,.u (.c (.d (.int _ i)))=>
  match a with
  | .u (.c (.ref b off))=> .ret ⟨0<=i/\i<n,.c (.ref b (off+i.toNat*e.size)),[]⟩
  | .u (.c (.dM l off))=> .ret ⟨0<=i/\i<n,.c (.dM l (off+i.toNat*e.size)),[]⟩
  | .u (.c (.glob g off))=> .ret ⟨0<=i/\i<n,.c (.glob g (off+i.toNat*e.size)),[]⟩
  | .u (.c (.iE k j off))=> .lab k fun
   | some (.owned _)=> .ret ⟨0<=i/\i<n,.c (.iE k j (off+i.toNat*e.size)),[]⟩
   | some (.shared _)=> .ret ⟨0<=i/\i<n,.c (.iE k j (off+i.toNat*e.size)),[]⟩
   | _=>bad
  | _=>bad
 | _,_,_=>bad
def wV (ty:iT) (t:Nat) (a ix:AV):Rd Out:=
 match ty t,kF ty t,ix,a with
 | some { desc:= .array n _,.. },some e,.u (.c (.d (.int _ i))),.u (.agg l)=>
  if i=0\/0<i then
   if e.agg then .ret ⟨i<n/\i.toNat*e.size+e.size<=l.length,.agg ((l.drop (i.toNat*e.size)).take e.size),[]⟩
   else .ret ⟨i<n/\e.size=1/\i.toNat<l.length,.c (l.getD i.toNat .undef),[]⟩
  else bad
 | some { desc:= .string,.. },_,.u (.c (.d (.int _ i))),.u (.c (.d (.str s)))=> .ret ⟨0<=i/\i<s.size,.c (.d (.int .u8 (byteAt s i.toNat))),[]⟩
 | _,_,_,_=>bad
def firsts (x:D):Nat->Nat->List D
 | 0,_=>[]
 | n+1,i=>(x.nth i).getD 0 .undef::firsts x n (i+1)
def wU (ty:iT) (t:Nat) (a:AV):Rd Out:=
 match ty t,a with
 | some { desc:= .array n _,.. },.u (.c (.d x))=> .ret ⟨x.cu=true/\x.stride=1/\0<n/\n<=x.len,.c (.dM (firsts x n 0) 0),[]⟩
 | _,_=>bad
def iY (place:Nat->Option (Nat×Nat)):List AC->List (Nat×AV)->Option (List AC)
 | cs,[]=>some cs
 | cs,(i,.u v)::r=>
  match place i with
  | some (o,n)=>if v.cells.length=n/\v.solid=true/\o+n<=cs.length then iY place (splice cs o v.cells) r else none
  | none=>none
 | _,_=>none
def jY (ty:iT) (fs:List Field) (i:Nat):Option (Nat×Nat):=
 match fs[i]? with
 | some fd=>match ty fd.type with
  | some i=>some (fd.offset,i.size)
  | none=>none
 | none=>none
def wX (ty:iT) (t:Nat) (parts:List (Nat×AV)):Rd Out:=
 match ty t with
 | some { desc:= .struct fs,zero:=z,.. } =>
  if fs.toList.all (λf=>(ty f.type).isSome) then
   match iY (jY ty fs.toList) (z.map Dn) parts with
   | some cs=>rP (.agg cs)
   | none=>bad
  else bad
 | some { desc:= .array _ e,zero:=z,.. } =>
  match ty e with
  | some i=>
   match iY (λj=>some (j*i.size,i.size)) (z.map Dn) parts with
   | some cs=>rP (.agg cs)
   | none=>bad
  | none=>bad
 | _=>bad
def zO {α:Type} (l:List α):Nat->List α
 | 0=>[]
 | n+1=>l++zO l n
def uy (cs:List AC) (f:List D->Rd Out):Rd Out:=
 match cs with
 | [.dF]=>f [.nl]
 | cs=>qM cs f
def jW:List AC->Bool
 | []=>false
 | .ref _ _::_=>true
 | _::r=>jW r
def jD (ty:iT) (lin:Bool) (nm t len:Nat) (parts:List (Nat×AV)):Rd Out:=
 match ty t with
 | some { desc:= .slice e,.. } =>
  match ty e with
  | some i=>
   match iY (λj=>some (j*i.size,i.size)) (zO (i.zero.map Dn) len) parts with
   | some cs=>if jW cs=true then (if lin=true then jU nm λb=> .ret ⟨(len*i.size<=16777216/\len*i.size≠0)/\cs.all AC.solid=true,.c (.xg b 0 len i.size),[.box b cs]⟩ else bad)
    else bJ cs λws=>uy cs λds=>xK lin nm (len*i.size<=16777216/\i.zero.length=i.size/\0<i.size) (D.ofList i.size (chunks i.size ds len)) ws
   | none=>bad
  | none=>bad
 | _=>bad
def zU:List AC->Option (List D)
 | [.dF]=>some [.nl]
 | cs=>oM cs
def lY (ty:iT) (lin:Bool) (nm t:Nat) (l c:AV):Rd Out:=
 match ty t,l,c with
 | some { desc:= .slice e,.. },.u (.c (.d (.int _ l))),.u (.c (.d (.int _ c)))=>
  match ty e with
  | some i=>
   match zU (i.zero.map Dn) with
   | some ds=>xK lin nm ((0<=l/\l<=c/\c<=9223372036854775807/\i.bytes*c<=281474976710656)/\i.zero.length=i.size/\0<i.size) (D.rep i.size l.toNat ds) []
   | none=>bad
  | none=>bad
 | _,_,_=>bad
def bound (x:Option AV) (d:Nat):Option Int:=
 match x with
 | none=>some d
 | some (.u (.c (.d (.int _ n))))=>some n
 | _=>none
def Kz (e:TI) (lo hi:Option AV) (max:Bool) (d:D) (ws:List Wr):Rd Out:=
 match bound lo 0,bound hi d.len with
 | some l,some h=> .ret ⟨max=false/\d.cu=true/\(d.len≠0->d.stride=e.size)/\(0<=l/\l<=h/\h<=d.len),.c (.d (d.sub l.toNat h.toNat)),ws⟩
 | _,_=>bad
def kP (ty:iT) (t:Nat) (x:AV) (lo hi:Option AV) (max:Bool):Rd Out:=
 match ty t,kF ty t with
 | some { desc:= .slice _,.. },some e=>
  match x with
  | .u (.c x)=>bJ [x] λws=>Jz x λd=>Kz e lo hi max d ws
  | _=>bad
 | some { desc:= .array n _,.. },some e=>
  match x with
  | .u (.c (.ref b off))=>
   match bound lo 0,bound hi n with
   | some l,some h=> .ret ⟨max=false/\(0<=l/\l<=h/\h<=n)/\l<n,.c (.xg b (off+l.toNat*e.size) (h.toNat - l.toNat) e.size),[]⟩
   | _,_=>bad
  | _=>bad
 | some { desc:= .string,.. },_=>
  match x with
  | .u (.c (.d (.str s)))=>
   match bound lo 0,bound hi s.size with
   | some l,some h=> .ret ⟨max=false/\0<=l/\l<=h/\h<=s.size,.c (.d (.str (s.extract l.toNat h.toNat))),[]⟩
   | _,_=>bad
  | _=>bad
 | _,_=>bad
def Hq (ty:iT) (t:Nat) (x:AV):Rd Out:=
 match ty t,x with
 | some { desc:= .slice _,.. },.u (.c (.xg _ _ n _))=>rP (.c (.d (.int .i64 n)))
 | some { desc:= .slice _,.. },.u (.c (.own k))=> .lab k fun
  | some (.owned x)=> .ret ⟨x.cu=true,.c (.d (.int .i64 x.len)),[]⟩
  | some (.shared x)=> .ret ⟨x.cu=true,.c (.d (.int .i64 x.len)),[]⟩
  | some (.deep x)=> .ret ⟨x.cu=true,.c (.d (.int .i64 x.len)),[]⟩
  | _=>bad
 | some { desc:= .slice _,.. },.u (.c x)=>Jz x λd=> .ret ⟨d.cu=true,.c (.d (.int .i64 d.len)),[]⟩
 | some { desc:= .string,.. },.u (.c (.d (.str s)))=>rP (.c (.d (.int .i64 s.size)))
 | _,_=>bad
def kZ (mx:Bool):List AV->Rd Out
 | [.u (.c (.d (.int j a))),.u (.c (.d (.int k b)))]=>
  .ret ⟨j=k,.c (.d (.int j (if mx then (if a<b then b else a) else (if b<a then b else a)))),[]⟩
 | _=>bad
def MW (y:AC) (j:Nat):Prop:=match y with | .own i=>i≠j | _=>True
def Hw (e:TI) (t nm:Nat) (s y:AC) (d:D):Rd Out:=
 match s with
 | .dF=>fU nm λk=> .ret ⟨(d.cu=true/\(d.len≠0->d.stride=e.size))/\d.len*e.bytes<=140737488355328/\d.len<=9223372036854775807,.c (.own k),
  [.lab k (.owned (D.cat (.sl e.size 0 λ_=>[]) d))]⟩
 | .own j=> .lab j fun
  | some (.owned z)=>fU nm λk=> .ret ⟨((d.cu=true/\(d.len≠0->d.stride=e.size))/\z.stride=e.size/\MW y j)/\(z.len+d.len)*e.bytes<=140737488355328/\z.len+d.len<=9223372036854775807,
   .c (.own k),[.lab j .dead,.lab k (.owned (D.cat z d))]⟩
  | some (.deep z)=>fU nm λk=> .ret ⟨(d.cu=true/\d.len=1/\d.stride=e.size/\Zw d 0=[.nl]/\e.size=1)/\(z.len+1)*e.bytes<=140737488355328/\z.len+1<=9223372036854775807,
   .c (.own k),[.lab j .dead,.lab k (.deep (z.app [.sl t 0 λ_=>[]]))]⟩
  | _=>bad
 | .X8 z=>fU nm λk=> .ret ⟨((d.cu=true/\(d.len≠0->d.stride=e.size))/\(z.len≠0->z.stride=e.size)/\d.len≠0)/\(z.len+d.len)*e.bytes<=140737488355328/\z.len+d.len<=9223372036854775807,
  .c (.own k),[.lab k (.owned (if z.len=0 then D.cat (.sl e.size 0 λ_=>[]) d else D.cat z d))]⟩
 | _=>bad
def xM (ty:iT) (e:TI):Nat:=
 match e.desc with
 | .slice q=>match ty q with
  | some i=>i.size
  | none=>0
 | _=>0
def pX (ty:iT) (lin:Bool) (nm t:Nat) (s x:AV):Rd Out:=
 match lin,ty t,kF ty t,s,x with
 | true,some { desc:= .slice _,.. },some e,.u (.c s),.u (.c y)=>Jz y λd=>Hw e (xM ty e) nm s y d
 | _,_,_,_,_=>bad
def eP (lin:Bool) (nm:Nat):Nat->List RC->(Nat->List AC->List (Nat×D)->Rd Out)->Rd Out
 | j,[],f=>f j [] []
 | j,.d x::r,f=>eP lin nm j r λj cs ls=>f j (.d x::cs) ls
 | j,.own x::r,f=>
  if lin then fU (nm+10000*j) λk=>eP lin nm (j+1) r λj cs ls=>f j (.own k::cs) ((k,x)::ls)
  else eP lin nm j r λj cs ls=>f j (.d x::cs) ls
def Dy (lin:Bool) (nm:Nat) (j:Nat) (r:RV) (f:Nat->AU->List (Nat×D)->Rd Out):Rd Out:=
 match r with
 | .c x=>eP lin nm j [x] λj cs ls=>f j (.c (cs.getD 0 .undef)) ls
 | .agg l=>eP lin nm j l λj cs ls=>f j (.agg cs) ls
def qQ (lin:Bool) (nm:Nat):Nat->List RV->(List AU->List (Nat×D)->Rd Out)->Rd Out
 | _,[],f=>f [] []
 | j,r::rs,f=>Dy lin nm j r λj x ls=>qQ lin nm j rs λxs ls'=>f (x::xs) (ls++ls')
def Dx:List AU->AV
 | [x]=> .u x
 | l=> .Jy l
def bY:List AV->List AC
 | []=>[]
 | .u x::r=>x.cells++bY r
 | _::r=>bY r
def jL:List Arg->Bool
 | []=>true
 | .clo _ ds::r=>ds.isEmpty && jL r
 | .ptr _::_=>false
 | _::r=>jL r
def iM (sp:fO) (lin:Bool) (nm:Nat) (caps:List Cap) (as:List Arg) (ws:List Wr):Rd Out:=
 qQ lin nm 0 (sp.res as) λxs ls=>
  if lin=true\/ws.length=0 then
   .ret ⟨sp.pre as/\(ls.map (·.1)).Nodup/\(sp.alias=true->jL as=true),Dx xs,ws++ls.map λp=> .lab p.1 (.owned p.2)⟩
  else bad
def qI (tb:qj) (lin:Bool) (nm f:Nat) (caps:List Cap) (args:List AV):Rd Out:=
 match tb f with
 | none=>bad
 | some sp=>mF args λas=>lM caps λds=>
  if sp.alias then bJ (bY args) λws=>iM sp lin nm caps (as++ds.map .ptr) ws
  else iM sp lin nm caps (as++ds.map .ptr) []
def bytesOf (x:D):Nat->Option (List UInt8)
 | 0=>some []
 | n+1=>match Zw x n,bytesOf x n with
  | [.int .u8 k],some l=>some (l++[UInt8.ofNat k.toNat])
  | _,_=>none
def Eo (x:D):Rd Out:=
 match bytesOf x x.len with
 | some l=> .ret ⟨x.cu=true/\(x.len≠0->x.stride=1),.c (.d (.str ⟨l.toArray⟩)),[]⟩
 | none=>bad
def lZ (ty:iT) (e dst:Nat) (x:AV):Rd Out:=
 match ty dst,ty e,x with
 | some { desc:= .string,.. },some { desc:= .int .u8,.. },.u (.c y)=>Jz y Eo
 | _,_,_=>bad
def oW (ty:iT) (dst:Nat) (x:AV):Rd Out:=
 match ty dst,x with
 | some { desc:= .string,.. },.u (.c (.d (.str s)))=>rP (.c (.d (.str s)))
 | some { desc:= .int k,.. },.u (.c (.d (.int _ n)))=>rP (.c (.d (.int k (k.wrap n))))
 | _,_=>bad
def ug:List AV->Option (List Cap)
 | []=>some []
 | .u (.c (.ref b off))::r=>(ug r).map (.ref b off:: ·)
 | .u (.c (.dM l off))::r=>(ug r).map (.dM l off:: ·)
 | _=>none
def oV (ty:iT) (lin:Bool) (nm t:Nat):Rd Out:=
 match lin,ty t with
 | true,some { desc:= .map k _,.. } =>
  match ty k with
  | some { desc:= .string,.. } =>fU nm λkk=> .ret ⟨True,.c (.own kk),[.lab kk (.set (.keys (D.ofList 1 [])))]⟩
  | some { desc:= .int .i64,.. } =>fU nm λkk=> .ret ⟨True,.c (.own kk),[.lab kk (.set (.tab []))]⟩
  | _=>bad
 | _,_=>bad
def mO (ty:iT) (t:Nat) (x k:AV):Rd Out:=
 match ty t,x,k with
 | some { desc:= .map q e,.. },.u (.c (.own kk)),.u (.c (.d (.str s)))=>
  match ty q,ty e with
  | some { desc:= .string,.. },some { desc:= .bool,zero:=[.bool false],agg:=false,.. } => .lab kk fun
   | some (.set (.keys x))=>rP (.c (.d (.bool (UO x s))))
   | _=>bad
  | _,_=>bad
 | some { desc:= .map q _,.. },.u (.c (.own kk)),.u (.c (.d (.int .i64 n)))=>
  match ty q with
  | some { desc:= .int .i64,.. } => .lab kk fun
   | some (.set (.tab l))=>match lk l n.toNat with
    | some (b,off,m,s)=> .ret ⟨0<=n,.c (.xg b off m s),[]⟩
    | none=>bad
   | _=>bad
  | _=>bad
 | _,_,_=>bad
def iG (ty:iT) (t:Nat) (x k v:AV):Rd Out:=
 match ty t,x,k,v with
 | some { desc:= .map q _,.. },.u (.c (.own kk)),.u (.c (.d (.str s))),.u (.c (.d (.bool b)))=>
  match ty q with
  | some { desc:= .string,.. } => .lab kk fun
   | some (.set (.keys x))=> .ret ⟨b=true,default,[.lab kk (.set (.keys (D.cat x (D.ofList 1 [[.str s]]))))]⟩
   | _=>bad
  | _=>bad
 | some { desc:= .map q _,.. },.u (.c (.own kk)),.u (.c (.d (.int .i64 n))),.u (.c (.xg b off m s))=>
  match ty q with
  | some { desc:= .int .i64,.. } => .lab kk fun
   | some (.set (.tab l))=> .ret ⟨0<=n/\(lk l n.toNat).isNone=true,default,[.lab kk (.set (.tab ((n.toNat,b,off,m,s)::l)))]⟩
   | _=>bad
  | _=>bad
 | _,_,_,_=>bad
def fJ (ty:iT) (tb:qj) (lin:Bool) (o:Oper):Rd Out:=
 let nm:=o.dst.getD 0
 match o.op with
 | .move x=>eG x rP
 | .assign x=>eG x rP
 | .pick c a b=>eG c λc=>eG a λa=>eG b λb=>tK c a b
 | .alloc t=>
  match lin,ty t with
  | true,some i=>jU nm λb=> .ret ⟨True,.c (.ref b 0),[.box b (i.zero.map Dn)]⟩
  | _,_=>bad
 | .box _ x=>eG x fun
  | .u v=>if lin then jU nm λb=> .ret ⟨v.solid=true,.c (.ref b 0),[.box b v.cells]⟩ else bad
  | _=>bad
 | .build t ps=>ql (ps.toList.map (·.2)) λvs=>wX ty t ((ps.toList.map (·.1)).zip vs)
 | .buildSlice t n ps=>ql (ps.toList.map (·.2)) λvs=>jD ty lin nm t n ((ps.toList.map (·.1)).zip vs)
 | .load t a=>eG a (nM ty lin nm t)
 | .store t a v=>eG a λa=>eG v λv=>if lin then kY ty t a v else bad
 | .nilCheck x=>eG x λv=>match v with
  | .u (.c (.ref _ _)) | .u (.c (.dM _ _))=>rP v
  | .u (.c (.d (.pt b l)))=> .ret ⟨b=true,.c (.d (.pt b l)),[]⟩
  | _=>bad
 | .binOp op t x y _=>eG x λx=>eG y λz=>KA ty (isConst y) op t x z
 | .unOp op _ x=>eG x λx=>match op,x with
  | .neg,.u (.c (.d (.int k n)))=>rP (.c (.d (.int k (k.wrap (0 - n)))))
  | .not,.u (.c (.d (.bool b)))=>rP (.c (.d (.bool !b)))
  | _,_=>bad
 | .convert s d x=>match ty s with
  | some { desc:= .slice e,.. } =>eG x (lZ ty e d)
  | some _=>eG x (oW ty d)
  | none=>bad
 | .makeFunc (.func f) first caps=>
  match first.toList with
  | []=>ql caps.toList λvs=>match ug vs with
   | some cs=>rP (.c (.clo f cs))
   | none=>bad
  | _=>bad
 | .makeSlice t l c=>eG l λl=>eG c λc=>lY ty lin nm t l c
 | .slice t x lo hi mx=>eG x λx=>
  match lo,hi with
  | none,none=>kP ty t x none none mx.isSome
  | some l,none=>eG l λl=>kP ty t x (some l) none mx.isSome
  | none,some h=>eG h λh=>kP ty t x none (some h) mx.isSome
  | some l,some h=>eG l λl=>eG h λh=>kP ty t x (some l) (some h) mx.isSome
 | .fieldAddr s x f=>eG x (ku ty s f)
 | .field s x f=>eG x (wW ty s f)
 | .indexAddr t x i=>eG x λx=>eG i λi=>iH ty t x i
 | .index t x i=>eG x λx=>eG i λi=>wV ty t x i
 | .extract x i=>eG x λv=>match v with
  | .Jy l=> .ret ⟨i<l.length,.u (l.getD i default),[]⟩
  | _=>bad
 | .call { callee:= .builtin .len,args:=args,argTypes:=ts } =>
  match args.toList,ts.toList with
  | [x],[t]=>eG x (Hq ty t)
  | _,_=>bad
 | .call { callee:= .builtin .append,args:=args,argTypes:=ts } =>
  match args.toList,ts.toList with
  | [s,x],[t,u]=>match ty u with
   | some { desc:= .slice _,.. } =>eG s λs=>eG x λx=>pX ty lin nm t s x
   | _=>bad
  | _,_=>bad
 | .call { callee:= .builtin .max,args:=args,.. } =>ql args.toList (kZ true)
 | .call { callee:= .builtin .min,args:=args,.. } =>ql args.toList (kZ false)
 | .call { callee:= .value f,args:=args,.. } =>eG f fun
  | .u (.c (.clo f caps))=>ql args.toList λvs=>qI tb lin nm f caps vs
  | .u (.c (.d (.fn f)))=>ql args.toList λvs=>qI tb lin nm f [] vs
  | _=>bad
 | .sliceToArrayPointer t x=>eG x (wU ty t)
 | .makeMap t none=>oV ty lin nm t
 | .lookup t x k false=>eG x λx=>eG k λk=>mO ty t x k
 | .mapUpdate t x k v=>eG x λx=>eG k λk=>eG v λv=>if lin then iG ty t x k v else bad
 | .insert t x k v=>eG x λx=>eG k λk=>eG v λv=>if lin then iG ty t x k v else bad
 | _=>bad
def mW (p:Prop):Rd Out->Rd Out
 | .ret o=> .ret { o with nO:=p/\o.nO }
 | .slot t k=> .slot t λv=>mW p (k v)
 | .box b k=> .box b λv=>mW p (k v)
 | .lab l k=> .lab l λv=>mW p (k v)
def bQ (c:Bool):Rd Out->Rd Out
 | .ret o=>match o.wr,o.dst with
  | [],.u x=> .ret ⟨c=true->o.nO,.cnd c x,[]⟩
  | _,_=>bad
 | .slot t k=> .slot t λv=>match v with
  | .cnd q x=>mW (c=true->q=true) (bQ c (k (.u x)))
  | v=>bQ c (k v)
 | .box b k=> .box b λv=>bQ c (k v)
 | .lab l k=> .lab l λv=>bQ c (k v)
def Ar (c:Bool) (p a b:AV):Rd Out:=
 match jf p,jf a,jf b with
 | some (.c (.d (.bool p)),o),some (x,q),some (y,r)=>
  match x,y with
  | .c (.d (.bool x)),.c (.d (.bool y))=> .ret ⟨c=true->o=true/\(p=true->q=true)/\(p=false->r=true),.cnd c (.c (.d (.bool (bif p then x else y)))),[]⟩
  | .c (.d (.int j x)),.c (.d (.int k y))=> .ret ⟨c=true->o=true/\(p=true->q=true)/\(p=false->r=true)/\j=k,.cnd c (.c (.d (.int j (bif p then x else y)))),[]⟩
  | _,_=>bad
 | _,_,_=>bad
def dP (c:Bool) (op:Op) (r:Rd Out):Rd Out:=
 match op with
 | .pick p x y=>eG p λp=>eG x λx=>eG y λy=>Ar c p x y
 | _=>bQ c r
def Qb:List (Option Nat)->Nat->Option Nat
 | [],_=>none
 | d::_,0=>d
 | _::r,n+1=>Qb r n
def eX (ty:iT) (tb:qj) (ds:List (Option Nat)) (o:Oper):Rd Out:=
 match o.guard with
 | none=>fJ ty tb true o
 | some (j,want)=>
  match Qb ds j with
  | none=>bad
  | some t=> .slot t fun
   | .u (.c (.d (.bool b)))=>dP (b == want) o.op (fJ ty tb false o)
   | .cnd q (.c (.d (.bool b)))=>dP (q && (b == want)) o.op (fJ ty tb false o)
   | _=>bad
end Go.dR
set_option linter.unusedVariables false
set_option linter.unusedSimpArgs false
namespace Go.dR
inductive EV where
 | i (n:Int)
 | s (b:ByteArray)
 deriving DecidableEq
def EV.val:EV->Value | .i n=> .int .i64 n | .s b=> .string b
def EV.kind:EV->Bool | .i _=>true | .s _=>false
def evs (l:List EV):Array Value:=(l.map EV.val).toArray
theorem Nq {xs:List EV} {ks:List Bool} (h:xs.map EV.kind=true::ks):∃ a r,xs= .i a::r/\r.map EV.kind=ks:=by
 cases xs with
 | nil=>cases h
 | cons x r=>cases x with
  | i a=>exact ⟨a,r,rfl,by simpa [EV.kind] using h⟩
  | s b=>simp [EV.kind] at h
theorem ac2 {xs:List EV} (h:xs.map EV.kind=[]):xs=[]:=List.map_eq_nil_iff.1 h
theorem KN (a b:ByteArray):(a.toList == b.toList)=decide (a=b):=by
 rw [ByteArray.toList_eq,ByteArray.toList_eq]
 by_cases h:a=b
 ·subst h; simp
 have:¬ a.data=b.data:=λe=>h (ByteArray.ext e)
 simp [h,this]
structure amQ (P:Program) (t:Nat) (ks:List Bool):Prop where
 guard:P.eqGuardType P.depth t=false
 run:∀ (xs ys:List EV) (w:World),xs.map EV.kind=ks->ys.map EV.kind=ks->(Op.equalIn 10000 t (.agg (evs xs)) (.agg (evs ys))).run P w= .ok (decide (xs=ys)) w
structure aI (P:Program) (t:Nat) (i:TI):Prop where
 info:∃ info z,P.info? t=some info/\info.size=i.size/\info.bytes=i.bytes/\info.zero=some z/\z.cells.toList=i.zero
 und:P.underlying t=some i.desc
 agg:i.agg=(match i.desc with | .struct _ | .array _ _=>true | _=>false)
 one:i.agg=false->i.size=1
 IU:i.zero.length=i.size
 eq:∀ n,i.eqn=some n->amQ P t n
 zi:i.agg=false->∃ info,P.info? t=some info/\info.zero=some (i.zero.headD .nilFunc)
def iP (P:Program) (ty:iT):Prop:=∀ t i,ty t=some i->aI P t i
section
variable {P:Program} {t:Nat} {i:TI} (w:World)
theorem aI.kX (h:aI P t i):(sizeOf t).run P w= .ok i.size w:=by
 obtain ⟨info,z,h1,h2,_⟩:=h.info
 simp [sizeOf,typeInfo,h1,h2]
theorem aI.afy (h:aI P t i):(underlying t).run P w= .ok i.desc w:=run_underlying h.und w
theorem aI.Et (h:aI P t i):(isAgg t).run P w= .ok i.agg w:=by
 have:=h.agg
 unfold isAgg
 rw [Sem.run_bind,h.afy,Result.andThen_ok,this]
 cases i.desc<;>rfl
theorem aI.aaN (h:aI P t i):∃ z,(zeroValue t).run P w= .ok z w/\z.cells.toList=i.zero:=by
 obtain ⟨info,z,h1,h2,h3,h4,h5⟩:=h.info
 exact ⟨z,by simp [zeroValue,typeInfo,h1,h4],h5⟩
end
theorem addr_add (B o n:Nat):(⟨B,o,none⟩:Addr).add n=⟨B,o+n,none⟩:=by
 unfold Addr.add; split<;>simp_all
theorem DZ {P:Program} {t:Nat} {i:TI} (h:aI P t i) (ha:i.agg=true) (w:World) (B o:Nat) (f:Nat->Value)
 (hc:∀ j,j<i.size->w.cell? ⟨B,o+j,none⟩=some (f j)):(loadVar t ⟨B,o,none⟩).run P w= .ok (.agg ((List.range i.size).map f).toArray) w:=by
 have hl:=run_loadCells (P:=P) w ⟨B,o,none⟩ i.size f (λj hj=>by rw [addr_add]; exact hc j hj)
 simp [loadVar,h.Et,ha,h.kX,hl]
theorem nV {P:Program} {t:Nat} {i:TI} (h:aI P t i) (ha:i.agg=false) (w:World) (a:Addr) (v:Value)
 (hc:w.cell? a=some v):(loadVar t a).run P w= .ok v w:=by
 simp [loadVar,h.Et,ha,hc]
def valOf (st:St):Operand->AV
 | .tmp t=>(lk st.sl t).getD default
 | .const v=>ofValue v
 | .func g=> .c (.clo g [])
 | .global g=> .c (.glob g 0)
theorem dD (st:St) (x:Operand) (f:AV->Rd Out):(eG x f).run st=(f (valOf st x)).run st:=by cases x<;>rfl
def valsOf (st:St):List Operand->List AV
 | []=>[]
 | x::r=>valOf st x::valsOf st r
theorem pG (st:St) (l:List Operand) (f:List AV->Rd Out):(ql l f).run st=(f (valsOf st l)).run st:=by
 induction l generalizing f with
 | nil=>rfl
 | cons x r ih=>simp only [ql,dD,valsOf]; rw [ih]
section
variable {cx:Cx} {st:St} {m:Mp} {a:Act} {w:World}
theorem wK (lb:Nat->Option fE) (v:Value):fD cx m w lb (Dn v) v:=by
 unfold Dn
 split<;>simp only [fD]<;>first | constructor | trivial
theorem TN (lb:Nat->Option fE) (v:Value):RA cx m w lb (ofValue v) v:=by
 unfold ofValue
 split
 ·rename_i cs
  refine ⟨cs,rfl,by simp,λj hj=> ?_⟩
  simp only [List.length_map,Array.length_toList] at hj
  exact ⟨cs[j],by simp [hj],by simpa [hj,List.getD] using wK lb cs[j]⟩
 exact wK lb v
theorem Rel.val (R:Rel cx st m a w) (x:Operand):RA cx m w (lk st.lb) (valOf st x) (a.eval x):=by
 cases x with
 | tmp t=>
  simp only [valOf,Act.eval]
  cases h:lk st.sl t with
  | none=>exact trivial
  | some v=>exact (R.slots t v h).2
 | const v=>exact TN _ v
 | func g=>exact ⟨#[],rfl,rfl,λi hi=>by simp at hi⟩
 | global g=>rfl
theorem vO {P:Program} {t:Nat} {i:TI} {lb:Nat->Option fE} (h:aI P t i) {off B o:Nat} {l:List AC} (aY:((iF i off l).run st).nO)
 (hc:∀ j,j<l.length->∃ u,w.cell? ⟨B,o+j,none⟩=some u/\fD cx m w lb (l.getD j .undef) u) :
 ∃ v,(loadVar t ⟨B,o+off,none⟩).run P w= .ok v w/\RA cx m w lb ((iF i off l).run st).dst v/\((iF i off l).run st).wr=[]:=by
 unfold iF at*
 split at aY
 ·rename_i ha
  simp only [ha,if_true,Rd.run] at aY ⊢
  have hf:∀ j,j<i.size->∃ u,w.cell? ⟨B,o+off+j,none⟩=some u/\fD cx m w lb (l.getD (off+j) .undef) u:=λj hj=>by
   have:=hc (off+j) (by omega)
   rwa [<- Nat.add_assoc] at this
  refine ⟨_,DZ h ha w B (o+off) (λj=>(w.cell? ⟨B,o+off+j,none⟩).getD undef) (λj hj=> ?_),⟨_,rfl,by simp; omega,λj hj=> ?_⟩,by trivial⟩
  ·obtain ⟨u,hu,_⟩:=hf j hj
   simp [hu]
  simp only [List.length_take,List.length_drop] at hj
  have hj':j<i.size:=by omega
  obtain ⟨u,hu,hr⟩:=hf j hj'
  refine ⟨u,by simp [hj',hu],?_⟩
  have:((l.drop off).take i.size).getD j .undef=l.getD (off+j) .undef:=by
   simp [List.getD_eq_getElem?_getD,hj',List.getElem?_drop]
  rw [this]; exact hr
 rename_i ha
 simp only [ha,Rd.run] at aY ⊢
 obtain ⟨u,hu,hr⟩:=hc off aY
 exact ⟨u,nV h (by simpa using ha) w _ u hu,hr,rfl⟩
end
end Go.dR
set_option linter.unusedVariables false
set_option linter.unusedSimpArgs false
namespace Go.dR
def Good (P:Program) (cx:Cx) (st:St) (a:Act) (w:World) (o:Oper) (out:Out):Prop:=
 ∀ (next:Act->World->Prop) (Q:Exit->Act->World->Prop),
  (∀ v m' w',Rel cx (bK st out.wr) m' a w'->RA cx m' w' (lk (bK st out.wr).lb) out.dst v->next (a.put o.dst v) w')->o.wp P a w next Q
section
variable {P:Program} {ty:iT} {cx:Cx} {st:St} {m m':Mp} {a:Act} {w w':World} {o:Oper} {out:Out}
theorem Good.val {v:Value} (hrun:(execOp a.eval o).run P w= .ok (.value v) w') (R':Rel cx (bK st out.wr) m' a w')
 (hv:RA cx m' w' (lk (bK st out.wr).lb) out.dst v):Good P cx st a w o out:=by
 intro next Q h
 unfold Oper.wp
 rw [hrun,Oper.upon_value]
 exact h v m' w' R' hv
theorem Good.skip (hrun:(execOp a.eval o).run P w= .ok .skip w') (R':Rel cx (bK st out.wr) m' a w') (hd:out.dst=default):Good P cx st a w o out:=by
 intro next Q h
 unfold Oper.wp
 rw [hrun,Oper.upon_skip]
 exact h undef m' w' R' (by rw [hd]; trivial)
theorem Nj {α:Type}:∀ {l:List (Nat×α)} {a:Nat} {b:α},lk l a=some b->(a,b)∈l
 | [],_,_,h=>by cases h
 | (x,y)::r,a,b,h=>by
  simp only [lk] at h
  split at h
  ·rename_i e; subst e; obtain rfl:=Option.some.inj h; exact List.mem_cons_self ..
  exact List.mem_cons_of_mem _ (Nj h)
theorem aO {p:Prop} (h:(bad.run st).nO):p:=h.elim
theorem dN {v:AV} {u:Value} (R:Rel cx st m a w) (hrun:(execOp a.eval o).run P w= .ok (.value u) w) (hv:RA cx m w (lk st.lb) v u) :
 Good P cx st a w o ((rP v).run st):=Good.val (m':=m) hrun R hv
theorem J9 (R:Rel cx st m a w) {x:Operand} (ho:o.op= .move x\/o.op= .assign x):Good P cx st a w o ((rP (valOf st x)).run st):=by
 refine dN R (u:=a.eval x) ?_ (R.val x)
 rcases ho with ho | ho<;>simp [execOp,ho]
theorem Ho (hty:iP P ty) (R:Rel cx st m a w) {t:Nat} {av:AV} {u:Value} (hx:RA cx m w (lk st.lb) av u) (aY:((iZ ty t av).run st).nO) :
 ∃ b v,u= .pointer (some b)/\(loadVar t b).run P w= .ok v w/\RA cx m w (lk st.lb) ((iZ ty t av).run st).dst v/\((iZ ty t av).run st).wr=[]:=by
 revert aY
 unfold iZ
 split
 ·rename_i i b off hi
  simp only [Rd.run]
  split
  ·rename_i cs hb
   intro aY
   obtain ⟨B,hB,hp⟩:=hx
   obtain ⟨B',c,T,h1,h2,h3,h4⟩:=R.boxes b cs hb
   obtain rfl:B=B':=Option.some.inj (hB.symm.trans h1)
   obtain ⟨v,hv,hr,hw⟩:=vO (P:=P) (cx:=cx) (st:=st) (m:=m) (w:=w) (lb:=lk st.lb) (hty t i hi) (B:=B) (o:=0) aY (λj hj=>by
    obtain ⟨u,hu,hr⟩:=h4 j hj
    exact ⟨u,by simp [World.cell?,h2,hu],hr⟩)
   rw [Nat.zero_add] at hv
   exact ⟨_,v,hp,hv,hr,hw⟩
  exact aO
 ·rename_i i k j off hi
  have key:∀ x:D,(∃ B o,u= .pointer (some ⟨B,o+off,none⟩)/\∀ q,q<(x.nth j).length->∃ u,w.cell? ⟨B,o+q,none⟩=some u/\RD w (fP cx m) ((x.nth j).getD q .undef) u)->
   ((iF i off ((x.nth j).map .d)).run st).nO->∃ b v,u= .pointer (some b)/\(loadVar t b).run P w= .ok v w/\RA cx m w (lk st.lb) ((iF i off ((x.nth j).map .d)).run st).dst v/\((iF i off ((x.nth j).map .d)).run st).wr=[]:=by
   intro x ⟨B,o',hp,hc⟩ aY
   obtain ⟨v,hv,hr,hw⟩:=vO (P:=P) (cx:=cx) (st:=st) (m:=m) (w:=w) (lb:=lk st.lb) (hty t i hi) (B:=B) (o:=o') aY (λq hq=>by
    simp only [List.length_map] at hq
    obtain ⟨u,hu,hr⟩:=hc q hq
    refine ⟨u,hu,?_⟩
    have e:((x.nth j).map AC.d).getD q .undef= .d ((x.nth j).getD q .undef):=by simp [List.getD_eq_getElem?_getD,hq]
    rw [e]; exact hr)
   exact ⟨_,v,hp,hv,hr,hw⟩
  simp only [Rd.run]
  simp only [RA,RU,fD] at hx
  split
  ·rename_i y hl
   simp only [hl] at hx
   obtain ⟨hj,B,hB,hp⟩:=hx
   obtain ⟨hsl,hrow⟩:=R.owned k y hl
   obtain ⟨c,T,hc,_,hy⟩:=hrow B hB
   refine key y ⟨B,j*y.stride,hp,λq hq=> ?_⟩
   rw [(hy j hj).1] at hq
   obtain ⟨u,hu,hd⟩:=(hy j hj).2 q hq
   exact ⟨u,by simp [World.cell?,hc,hu],hd⟩
  ·rename_i y hl
   simp only [hl] at hx
   obtain ⟨hj,hlen,B,o',hp,hB,hS,hc⟩:=hx
   exact key y ⟨B,o',hp,hc⟩
  exact aO
 ·rename_i i l off hi
  intro aY
  obtain ⟨B,o',hp,hB,hS,hc⟩:=hx
  obtain ⟨v,hv,hr,hw⟩:=vO (P:=P) (cx:=cx) (st:=st) (m:=m) (w:=w) (lb:=lk st.lb) (hty t i hi) (B:=B) (o:=o') aY (λq hq=>by
   simp only [List.length_map] at hq
   obtain ⟨u,hu,hr⟩:=hc q hq
   refine ⟨u,hu,?_⟩
   have e:(l.map AC.d).getD q .undef= .d (l.getD q .undef):=by simp [List.getD_eq_getElem?_getD,hq]
   rw [e]; exact hr)
  exact ⟨_,v,hp,hv,hr,hw⟩
 ·rename_i i b l hi
  intro aY
  have hb:b=true/\((iF i 0 (l.map .d)).run st).nO/\((J4 i b l).run st).dst=((iF i 0 (l.map .d)).run st).dst/\((J4 i b l).run st).wr=[]:=by
   unfold J4 at aY ⊢
   unfold iF
   split at aY<;>rename_i hq<;>simp only [hq,if_true,if_false,Bool.false_eq_true,Rd.run] at aY ⊢ <;>exact ⟨aY.1,aY.2,by trivial,by trivial⟩
  obtain ⟨rfl,h1,h2,h3⟩:=hb
  obtain ⟨B,o',hp,hB,hS,hc⟩:=FX.1 hx
  obtain ⟨v,hv,hr,hw⟩:=vO (P:=P) (cx:=cx) (st:=st) (m:=m) (w:=w) (lb:=lk st.lb) (hty t i hi) (B:=B) (o:=o') h1 (λq hq=>by
   simp only [List.length_map] at hq
   obtain ⟨u,hu,hr⟩:=hc q hq
   refine ⟨u,hu,?_⟩
   have e:(l.map AC.d).getD q .undef= .d (l.getD q .undef):=by simp [List.getD_eq_getElem?_getD,hq]
   rw [e]; exact hr)
  exact ⟨_,v,hp,hv,by rw [h2]; exact hr,h3⟩
 ·rename_i i g off hi
  unfold XA
  split
  ·rename_i l ha hg
   intro aY
   simp only [Rd.run] at aY ⊢
   obtain ⟨c,T,h1,h2⟩:=cx.glob.1 g l (Nj hg)
   have h3:w.heap[g]? =some (.cells c T (0,0)):=by rw [R.old g (Array.getElem?_eq_some_iff.1 h1).1]; exact h1
   exact ⟨_,_,hx,nV (hty t i hi) ha w _ _ (by simp only [World.cell?,h3]; exact h2 off aY),.int _ _,by trivial⟩
  split
  ·rename_i l hg
   intro aY
   obtain ⟨c,T,z,h1,h2⟩:=cx.glob.2 g (aj0 l) (by
    refine List.mem_append_right _ (List.mem_map.2 ⟨(g,l),Nj hg,rfl⟩))
   have h3:w.heap[g]? =some (.cells c T z):=by rw [R.old g (Array.getElem?_eq_some_iff.1 h1).1]; exact h1
   obtain ⟨v,hv,hr,hw⟩:=vO (P:=P) (cx:=cx) (st:=st) (m:=m) (w:=w) (lb:=lk st.lb) (hty t i hi) (B:=g) (o:=0) aY (λq hq=>by
    simp only [List.length_map] at hq
    refine ⟨.string (l.getD q .empty),by simp only [World.cell?,h3,Nat.zero_add]; exact h2 q hq,?_⟩
    have e:(l.map λs=>AC.d (.str s)).getD q .undef= .d (.str (l.getD q .empty)):=by simp [List.getD_eq_getElem?_getD,hq]
    rw [e]; exact RD.str _)
   exact ⟨_,v,by rw [Nat.zero_add] at hv; exact hx,by rw [Nat.zero_add] at hv; exact hv,hr,hw⟩
  exact aO
 exact aO
theorem ZQ (hty:iP P ty) (R:Rel cx st m a w) {t:Nat} {x:Operand} (ho:o.op= .load t x) (aY:((iZ ty t (valOf st x)).run st).nO) :
 Good P cx st a w o ((iZ ty t (valOf st x)).run st):=by
 obtain ⟨b,v,hp,hv,hr,hw⟩:=Ho (P:=P) hty R (R.val x) aY
 refine Good.val (m':=m) (w':=w) (v:=v) ?_ (by rw [hw]; exact R) (by rw [hw]; exact hr)
 simp [execOp,ho,Instr.loadAt,Instr.sureAddr,hp,hv]
theorem Dt (st:St) (f:Nat->Rd Out):∀ (n nm:Nat),
 (∃ b,lk st.bx b=none/\(qE n nm f).run st=(f b).run st)\/(qE n nm f).run st=⟨False,default,[]⟩
 | 0,_=> .inr rfl
 | n+1,nm=>by
  simp only [qE,Rd.run]
  split
  ·rename_i h; exact .inl ⟨_,h,rfl⟩
  exact Dt st f n _
theorem yj (st:St) (nm:Nat) (f:Nat->Rd Out) :
 (∃ b,lk st.bx b=none/\(jU nm f).run st=(f b).run st)\/(jU nm f).run st=⟨False,default,[]⟩:=Dt st f 8 nm
theorem Dq (st:St) (f:Nat->Rd Out):∀ (n nm:Nat),
 (∃ b,lk st.lb b=none/\(qC n nm f).run st=(f b).run st)\/(qC n nm f).run st=⟨False,default,[]⟩
 | 0,_=> .inr rfl
 | n+1,nm=>by
  simp only [qC,Rd.run]
  split
  ·rename_i h; exact .inl ⟨_,h,rfl⟩
  exact Dq st f n _
theorem jy (st:St) (nm:Nat) (f:Nat->Rd Out) :
 (∃ b,lk st.lb b=none/\(fU nm f).run st=(f b).run st)\/(fU nm f).run st=⟨False,default,[]⟩:=Dq st f 8 nm
theorem UU (hty:iP P ty) (R:Rel cx st m a w) {lin:Bool} {nm t:Nat} {x:Operand} (ho:o.op= .load t x) (aY:((nM ty lin nm t (valOf st x)).run st).nO) :
 Good P cx st a w o ((nM ty lin nm t (valOf st x)).run st):=by
 have hx:=R.val x
 have hl0:((iZ ty t (valOf st x)).run st).nO->Good P cx st a w o ((iZ ty t (valOf st x)).run st):=λh=>ZQ hty R ho h
 generalize valOf st x=ax at*
 revert aY
 unfold nM
 split
 ·rename_i k j off
  simp only [Rd.run]
  split
  ·rename_i z hk
   split
   ·rename_i i hi
    rcases jy st nm (λkk=> .ret ⟨i.agg=false/\off=0/\j<z.len/\(yd z j).cu=true,.c (.own kk),[.lab k (.deep (z.setAt j 0 [.undef])),.lab kk (.owned (yd z j))]⟩) with ⟨kk,hkk,k2⟩ | k2
    ·rw [k2]
     intro aY
     simp only [Rd.run] at aY ⊢
     obtain ⟨ha,rfl,hj,hy⟩:=aY
     simp only [RA,RU,fD,hk] at hx
     obtain ⟨_,B,hB,hp⟩:=hx
     obtain ⟨d1,d2,d3⟩:=R.bn.ok k z hk
     rcases (d3 j hj).2 with ⟨q1,_⟩ | ⟨_,⟨B',u,q2,q3,q4⟩,_⟩
     ·exact (OY q1 hy).elim
     rw [hB] at q2; cases q2
     rw [d2,Nat.mul_one,Nat.add_zero] at hp
     have hrun:(loadVar t ⟨B,j,none⟩).run P w= .ok u w:=nV (hty t i hi) ha w _ _ q3
     refine Good.val (w':=w) (v:=u) ?_ (R.agQ hk hkk hj hy) ?_
     ·simp [execOp,ho,Instr.loadAt,Instr.sureAddr,hp,hrun]
     simp only [RA,RU,fD,bK,Wr.put,aX,upd_same]; exact q4
    rw [k2]; exact λh=>h.elim
   exact aO
  exact hl0
 exact hl0
theorem Xp {lb:Nat->Option fE} {x:AC} {v:Value} (hs:x.solid=true) (h:fD cx m w lb x v):One v:=by
 cases x with
 | undef=>simp [AC.solid] at hs
 | d x=>exact RD.one h
 | dF=>obtain rfl:=h; exact ⟨rfl,rfl⟩
 | own k=>
  simp only [fD] at h
  split at h
  ·exact h.elim
  ·exact h
  ·exact JG h.1 h.2
  ·exact Aj h
  ·exact Aj h
  ·obtain ⟨B,_,rfl⟩:=h; exact ⟨rfl,rfl⟩
 | ref b off=>obtain ⟨B,_,rfl⟩:=h; exact ⟨rfl,rfl⟩
 | iE k i off=>
  simp only [fD] at h
  split at h
  ·exact h.elim
  ·exact h
  ·obtain ⟨_,_,B,o,rfl,_⟩:=h; exact ⟨rfl,rfl⟩
  ·obtain ⟨_,B,_,rfl⟩:=h; exact ⟨rfl,rfl⟩
  ·obtain ⟨_,B,_,rfl⟩:=h; exact ⟨rfl,rfl⟩
  ·exact h.elim
 | dM l off=>obtain ⟨B,o,rfl,_⟩:=h; exact ⟨rfl,rfl⟩
 | clo f caps=>obtain ⟨vs,rfl,_⟩:=h; exact ⟨rfl,rfl⟩
 | Yw l=>obtain rfl:=h; exact ⟨rfl,rfl⟩
 | X8 x=>obtain ⟨_,_,b,rfl⟩:=h; exact ⟨rfl,rfl⟩
 | glob g off=>obtain rfl:=h; exact ⟨rfl,rfl⟩
 | xg b off n s=>obtain ⟨B,cap,_,_,rfl⟩:=h; exact ⟨rfl,rfl⟩
 | bnd f l=>obtain ⟨us,rfl,_⟩:=h; exact ⟨rfl,rfl⟩
theorem vw {lb:Nat->Option fE} {x:AU} {v:Value} (hs:x.solid=true) (h:RU cx m w lb x v) :
 v.cells.size=x.cells.length/\∀ j,j<x.cells.length->∃ u,v.cells[j]? =some u/\fD cx m w lb (x.cells.getD j .undef) u:=by
 cases x with
 | c x=>
  rw [(Xp hs h).1]
  refine ⟨rfl,λj hj=> ?_⟩
  simp only [AU.cells,List.length_singleton] at hj
  obtain rfl:j=0:=by omega
  exact ⟨v,rfl,h⟩
 | agg l=>obtain ⟨vs,rfl,hsz,hc⟩:=h; exact ⟨hsz,hc⟩
theorem adT (R:Rel cx st m a w) {t:Nat} {x:Operand} {nm:Nat} {v:AU} (ho:o.op= .box t x) (hx:RU cx m w (lk st.lb) v (a.eval x)) (aY:((jU nm λb=> .ret ⟨v.solid=true,.c (.ref b 0),[.box b v.cells]⟩).run st).nO) :
 Good P cx st a w o ((jU nm λb=> .ret ⟨v.solid=true,.c (.ref b 0),[.box b v.cells]⟩).run st):=by
 rcases yj st nm (λb=> .ret ⟨v.solid=true,.c (.ref b 0),[.box b v.cells]⟩) with ⟨b,hb,h⟩ | h
 ·rw [h] at aY ⊢
  simp only [Rd.run] at aY ⊢
  obtain ⟨h1,h2⟩:=vw aY hx
  refine Good.val (m':=⟨m.own,upd m.box b (some w.heap.size),m.inn,m.mp⟩) (w':= { w with heap:=w.heap.push (.cells (a.eval x).cells t (0,0)) }) (v:= .pointer (some ⟨w.heap.size,0,none⟩)) ?_ ?_ ?_
  ·simp [execOp,ho,Instr.box,newVar,newRow]
  ·exact R.jU hb h1 h2
  exact ⟨w.heap.size,upd_same _ _ _,rfl⟩
 rw [h] at aY; exact aY.elim
theorem U0 (hty:iP P ty) (R:Rel cx st m a w) {t nm:Nat} {i:TI} (ho:o.op= .alloc t) (hi:ty t=some i)
 (aY:((jU nm λb=> .ret ⟨True,.c (.ref b 0),[.box b (i.zero.map Dn)]⟩).run st).nO) :
 Good P cx st a w o ((jU nm λb=> .ret ⟨True,.c (.ref b 0),[.box b (i.zero.map Dn)]⟩).run st):=by
 rcases yj st nm (λb=> .ret ⟨True,.c (.ref b 0),[.box b (i.zero.map Dn)]⟩) with ⟨b,hb,h⟩ | h
 ·rw [h] at aY ⊢
  simp only [Rd.run] at aY ⊢
  obtain ⟨z,hz,hzc⟩:=(hty t i hi).aaN w
  refine Good.val (m':=⟨m.own,upd m.box b (some w.heap.size),m.inn,m.mp⟩) (w':= { w with heap:=w.heap.push (.cells z.cells t (0,0)) }) (v:= .pointer (some ⟨w.heap.size,0,none⟩)) ?_ ?_ ?_
  ·simp [execOp,ho,Instr.alloc,hz,newVar,newRow]
  ·refine R.jU hb (by rw [<- hzc]; simp) (λj hj=> ?_)
   rw [<- hzc] at hj ⊢
   simp only [List.length_map,Array.length_toList] at hj
   exact ⟨z.cells[j],by simp [hj],by simpa [hj,List.getD_eq_getElem?_getD] using wK (lk st.lb) z.cells[j]⟩
  exact ⟨w.heap.size,upd_same _ _ _,rfl⟩
 rw [h] at aY; exact aY.elim
end
end Go.dR
set_option linter.unusedVariables false
set_option linter.unusedSimpArgs false
namespace Go.dR
theorem nU {α:Type} (l:List α) (o:Nat) (ys:List α) (h:o+ys.length<=l.length) (j:Nat) :
 (splice l o ys)[j]? =if o<=j/\j<o+ys.length then ys[j - o]? else l[j]? :=by
 unfold splice
 by_cases h1:j<o
 ·rw [if_neg (by omega),List.append_assoc,List.getElem?_append_left (by simp; omega),List.getElem?_take,if_pos h1]
 by_cases h2:j<o+ys.length
 ·rw [if_pos (by omega),List.append_assoc,List.getElem?_append_right (by simp; omega),List.getElem?_append_left (by simp; omega)]
  congr 1; simp; omega
 rw [if_neg (by omega),List.getElem?_append_right (by simp; omega),List.getElem?_drop]
 congr 1; simp; omega
theorem jJ {α:Type} (l:List α) (o:Nat) (ys:List α) (h:o+ys.length<=l.length):(splice l o ys).length=l.length:=by
 simp [splice]; omega
structure Stored (w w':World) (B:Nat) (c c':Array Value) (T:TypeId) (o:Nat) (vs:List Value):Prop where
 env:dS w w'
 size:w'.heap.size=w.heap.size
 other:∀ B',B'≠B->w'.heap[B']? =w.heap[B']?
 row:w'.heap[B]? =some (.cells c' T (0,0))
 len:c'.size=c.size
 get:∀ j,c'[j]? =if o<=j/\j<o+vs.length then vs[j - o]? else c[j]?
theorem pF {P:Program} (B o:Nat) (T:TypeId) (vs:List Value):∀ (w:World) (c:Array Value) (i:Nat),w.heap[B]? =some (.cells c T (0,0))->(∀ v∈vs,One v)->o+i+vs.length<=c.size->
 ∃ w' c',(storeCells ⟨B,o,none⟩ vs i).run P w= .ok () w'/\Stored w w' B c c' T (o+i) vs:=by
 induction vs with
 | nil=>
  intro w c i hc _ _
  exact ⟨w,c,rfl,.refl _,rfl,λ_ _=>rfl,hc,rfl,λj=>by simp; omega⟩
 | cons v vs ih=>
  intro w c i hc hv hle
  simp only [List.length_cons] at hle
  have h1:(store ((⟨B,o,none⟩:Addr).add i) v).run P w= .ok () (w.setCell ⟨B,o+i,none⟩ v):=by
   rw [addr_add,run_store P w _ v _ (hv v (by simp)).2]
   have e1:w.cell? ⟨B,o+i,none⟩=some c[o+i]:=by simp [World.cell?,hc]
   have e2:w.frozen? ⟨B,o+i,none⟩=false:=by simp [World.frozen?,hc]
   simp [e1,e2]
  have hh:(w.setCell ⟨B,o+i,none⟩ v).heap[B]? =some (.cells (c.setIfInBounds (o+i) v) T (0,0)):=by
   simp [World.setCell,Array.getElem?_modify,hc]
  obtain ⟨w',c',hr,s⟩:=ih (w.setCell ⟨B,o+i,none⟩ v) (c.setIfInBounds (o+i) v) (i+1) hh (λu hu=>hv u (by simp [hu])) (by simp; omega)
  refine ⟨w',c',?_,⟨?_,?_,λB' hB'=> ?_,s.row,?_,λj=> ?_⟩⟩
  ·simp only [storeCells,Sem.run_bind,h1,Result.andThen_ok,hr]
  ·exact dS.trans ⟨rfl,rfl,rfl⟩ s.env
  ·rw [s.size]; simp [World.setCell]
  ·rw [s.other B' hB']; simp [World.setCell,Array.getElem?_modify,Ne.symm hB']
  ·rw [s.len]; simp
  rw [s.get j]
  simp only [List.length_cons]
  by_cases hj:j=o+i
  ·subst hj
   rw [if_neg (by omega),if_pos (by omega)]
   simp [show o+i<c.size by omega]
  by_cases h2:o+(i+1)<=j/\j<o+(i+1)+vs.length
  ·rw [if_pos h2,if_pos (by omega),show j - (o+i)=(j - (o+(i+1)))+1 by omega,List.getElem?_cons_succ]
  rw [if_neg h2,if_neg (by omega),Array.getElem?_setIfInBounds_ne (by omega)]
section
variable {P:Program} {ty:iT} {cx:Cx} {st:St} {m m':Mp} {a:Act} {w w':World} {o:Oper} {out:Out}
theorem abt {lb:Nat->Option fE} {x:AU} {v:Value} (hs:x.solid=true) (h:RU cx m w lb x v):∀ u∈v.cells.toList,One u:=by
 intro u hu
 obtain ⟨j,hj,rfl⟩:=List.getElem_of_mem hu
 simp only [Array.length_toList] at hj
 obtain ⟨h1,h2⟩:=vw hs h
 obtain ⟨u,hu2,hr⟩:=h2 j (by omega)
 have e:v.cells.toList[j]=u:=by simpa [hj] using hu2
 rw [e]
 refine Xp ?_ hr
 cases x with
 | c x=>
  simp only [AU.cells,List.length_singleton] at h1
  obtain rfl:j=0:=by omega
  exact hs
 | agg l=>
  simp only [AU.cells] at*
  simp only [AU.solid,List.all_eq_true] at hs
  rw [List.getD_eq_getElem?_getD,List.getElem?_eq_getElem (by omega)]
  exact hs _ (List.getElem_mem _)
theorem pV {t:Nat} {i:TI} {x y:Operand} (hty:aI P t i) (ho:o.op= .store t x y) {B off:Nat} {T:TypeId} {c:Array Value} (hp:a.eval x= .pointer (some ⟨B,off,none⟩))
 (hc:w.heap[B]? =some (.cells c T (0,0))) (hsz:(a.eval y).cells.size=i.size) (hone:∀ v∈(a.eval y).cells.toList,One v) (hle:off+i.size<=c.size) :
 ∃ w' c',(execOp a.eval o).run P w= .ok .skip w'/\Stored w w' B c c' T off (a.eval y).cells.toList:=by
 obtain ⟨w',c',hr,s⟩:=pF (P:=P) B off T (a.eval y).cells.toList w c 0 hc hone (by simp; omega)
 refine ⟨w',c',?_,by simpa using s⟩
 have h1:(storeVar t ⟨B,off,none⟩ (a.eval y)).run P w= .ok () w':=by
  simp [storeVar,hty.kX,hsz,hr]
 simp [execOp,ho,Instr.storeAt,Instr.sureAddr,hp,h1]
theorem MG {lb:Nat->Option fE} {g:Nat} {v:Value} (hx:fD cx m w lb (.clo g []) v):v= .func (.func g) #[] #[]:=by
 obtain ⟨vs,rfl,hsz,_⟩:=hx
 obtain rfl:vs= #[]:=Array.eq_empty_of_size_eq_zero (by simpa using hsz)
 rfl
theorem JH {lb:Nat->Option fE} {x:AC} {d:D} {v:Value} (h:Gi x=some d) (hx:fD cx m w lb x v):RD w (fP cx m) d v:=by
 cases x with
 | d y=>obtain rfl:=Option.some.inj h; exact hx
 | dF=>obtain rfl:=Option.some.inj h; obtain rfl:=hx; exact .sl0 _ _ _ _
 | clo g caps=>
  cases caps with
  | nil=>
   obtain rfl:=Option.some.inj h
   rw [MG hx]; exact .fn g
  | cons _ _=>cases h
 | _=>cases h
theorem Dz {l:List AC} {ds:List D} (h:oM l=some ds):ds.length=l.length/\∀ j,j<l.length->Gi (l.getD j .undef)=some (ds.getD j .undef):=by
 induction l generalizing ds with
 | nil=>simp [oM] at h; subst h; simp
 | cons x r ih=>
  simp only [oM] at h
  split at h
  ·rename_i d ds' h1 h2
   obtain rfl:=Option.some.inj h
   obtain ⟨e1,e2⟩:=ih h2
   refine ⟨by simp [e1],λj hj=> ?_⟩
   cases j with
   | zero=>simpa using h1
   | succ j=>simpa using e2 j (by simpa using hj)
  cases h
theorem D.JE (x:D) (i o:Nat) (c:List D):(x.setAt i o c).len=x.len:=rfl
theorem D.sZ (x:D) (i o:Nat) (c:List D):(x.setAt i o c).stride=x.stride:=rfl
theorem UR (hty:iP P ty) (R:Rel cx st m a w) {t:Nat} {x y:Operand} (ho:o.op= .store t x y) (aY:((lG ty t (valOf st x) (valOf st y)).run st).nO) :
 Good P cx st a w o ((lG ty t (valOf st x) (valOf st y)).run st):=by
 have hx:=R.val x
 have hy:=R.val y
 generalize valOf st x=ax at*
 generalize valOf st y=ay at*
 revert aY
 unfold lG
 split
 ·rename_i i v hi
  split
  ·rename_i b off
   simp only [Rd.run]
   split
   ·rename_i cs hb
    intro aY
    simp only [Rd.run] at aY ⊢
    obtain ⟨e1,e2,e3⟩:=aY
    obtain ⟨B,hB,hp⟩:=hx
    obtain ⟨B',c,T,h1,h2,h3,h4⟩:=R.boxes b cs hb
    obtain rfl:B=B':=Option.some.inj (hB.symm.trans h1)
    obtain ⟨g1,g2⟩:=vw e2 hy
    obtain ⟨w',c',hr,s⟩:=pV (hty t i hi) ho hp h2 (by rw [g1,e1]) (abt e2 hy) (by rw [h3]; omega)
    have hlen:(a.eval y).cells.toList.length=v.cells.length:=by simpa using g1
    refine Good.skip (m':=m) hr ?_ rfl
    refine R.afC hB s.env s.size s.other s.row (by rw [s.len,h3,jJ _ _ _ e3]) (λj hj=> ?_)
    rw [jJ _ _ _ e3] at hj
    rw [s.get j,List.getD_eq_getElem?_getD,nU _ _ _ e3,hlen]
    by_cases hin:off<=j/\j<off+v.cells.length
    ·rw [if_pos hin,if_pos hin]
     obtain ⟨u,hu,hr⟩:=g2 (j - off) (by omega)
     refine ⟨u,by simpa using hu,?_⟩
     rw [<- List.getD_eq_getElem?_getD]; exact hr
    rw [if_neg hin,if_neg hin, <- List.getD_eq_getElem?_getD]
    exact h4 j hj
   exact aO
  ·rename_i k j off
   simp only [Rd.run]
   split
   ·rename_i z hl
    split
    ·rename_i ds hds
     intro aY
     simp only [Rd.run] at aY ⊢
     obtain ⟨e1,e2,e3⟩:=aY
     simp only [RA,RU,fD,hl] at hx
     obtain ⟨hj,B,hB,hp⟩:=hx
     obtain ⟨hsl,hrow⟩:=R.owned k z hl
     obtain ⟨c,T,hc,_,hz⟩:=hrow B hB
     obtain ⟨g1,g2⟩:=vw e2 hy
     obtain ⟨p1,p2⟩:=Dz hds
     have hcsz:j*z.stride+z.stride<=c.size:=by
      by_cases h0:z.stride=0
      ·simp only [h0,Nat.le_zero,Nat.add_eq_zero_iff] at e3
       have:v.cells.length=0:=e3.2
       cases v with
       | c x=>simp [AU.cells] at this
       | agg l=>simp only [h0]; omega
      obtain ⟨u,hu,_⟩:=(hz j hj).2 (z.stride - 1) (by omega)
      have:=(Array.getElem?_eq_some_iff.1 hu).1
      omega
     obtain ⟨w',c',hr,s⟩:=pV (hty t i hi) ho hp hc (by rw [g1,e1]) (abt e2 hy) (by omega)
     have hlen:(a.eval y).cells.toList.length=v.cells.length:=by simpa using g1
     refine Good.skip (m':=m) hr ?_ rfl
     have hS:∀ B',B'<w.heap.size->fP cx m B'->B'≠B:=λB' _ h e=>by subst e; exact h.2.1 k hB
     have hext:Ext w w' (fP cx m) (fP cx m):=⟨by rw [s.size]; exact Nat.le_refl _,λB' h1 h2=>s.other B' (hS B' h1 h2),λ_ _ h=>h⟩
     refine R.afB hB hl (x':=z.setAt j off ds) rfl rfl rfl s.env s.size s.other (λc2 T2 h2=> ?_) ?_
     ·rw [hc] at h2
      obtain ⟨rfl,rfl⟩:=by simpa using h2
      exact ⟨c',s.row,s.len⟩
     refine ⟨c',T,s.row,rfl,λq hq=> ?_⟩
     have hq':q<z.len:=hq
     have hz':=hz q hq'
     simp only [D.sZ]
     have aEa:(z.setAt j off ds).nth q=if q=j then splice (z.nth j) off ds else z.nth q:=rfl
     rw [aEa]
     have e3':off+ds.length<=(z.nth j).length:=by rw [p1,(hz j hj).1]; exact e3
     by_cases hqj:q=j
     ·subst hqj
      rw [if_pos rfl]
      refine ⟨by rw [jJ _ _ _ e3',(hz q hq').1],λr hr=> ?_⟩
      rw [s.get,List.getD_eq_getElem?_getD,nU _ _ _ e3',hlen,p1]
      by_cases hin:off<=r/\r<off+v.cells.length
      ·rw [if_pos (by omega),if_pos hin]
       obtain ⟨u,hu,hr2⟩:=g2 (r - off) (by omega)
       refine ⟨u,by simpa [show q*z.stride+r - (q*z.stride+off)=r - off by omega] using hu,?_⟩
       have:=JH (p2 (r - off) (by omega)) hr2
       rw [<- List.getD_eq_getElem?_getD]; exact this.ext hext
      rw [if_neg (by omega),if_neg hin, <- List.getD_eq_getElem?_getD]
      obtain ⟨u,hu,hd⟩:=hz'.2 r hr
      exact ⟨u,hu,hd.ext hext⟩
     rw [if_neg hqj]
     refine ⟨hz'.1,λr hr=> ?_⟩
     obtain ⟨u,hu,hd⟩:=hz'.2 r hr
     refine ⟨u,?_,hd.ext hext⟩
     rw [s.get,hlen,if_neg,hu]
     intro hin
     rcases Nat.lt_or_gt_of_ne hqj with hlt | hgt
     ·have:(q+1)*z.stride<=j*z.stride:=Nat.mul_le_mul_right _ hlt
      rw [Nat.add_mul] at this; omega
     have:(j+1)*z.stride<=q*z.stride:=Nat.mul_le_mul_right _ hgt
     rw [Nat.add_mul] at this; omega
    exact aO
   exact aO
  exact aO
 exact aO
theorem xQ (hty:iP P ty) {s f o':Nat} {i:TI} (h:nT ty s f=some (o',i)) :
 ∃ fs fd,P.underlying s=some (.struct fs)/\fs[f]? =some fd/\fd.offset=o'/\aI P fd.type i/\i.size≠0:=by
 unfold nT at h
 split at h
 ·rename_i sz by' ag ze fs en hs
  have hS:=hty _ _ hs
  split at h
  ·rename_i fd hfd
   split at h
   ·rename_i i' hi'
    split at h
    ·cases h
    rename_i hne
    obtain ⟨rfl,rfl⟩:=by simpa using h
    exact ⟨fs,fd,hS.und,by simpa using hfd,rfl,hty _ _ hi',hne⟩
   cases h
  cases h
 cases h
theorem G6 (hty:iP P ty) (R:Rel cx st m a w) {s f:Nat} {x:Operand} (ho:o.op= .fieldAddr s x f) (aY:((ku ty s f (valOf st x)).run st).nO) :
 Good P cx st a w o ((ku ty s f (valOf st x)).run st):=by
 have hx:=R.val x
 generalize valOf st x=av at*
 revert aY
 unfold ku
 have key:∀ {o':Nat} {i:TI} {B q:Nat},nT ty s f=some (o',i)->a.eval x= .pointer (some ⟨B,q,none⟩)->(execOp a.eval o).run P w= .ok (.value (.pointer (some ⟨B,q+o',none⟩))) w:=by
  intro o' i B q h hp
  obtain ⟨fs,fd,h1,h2,rfl,h4,h5⟩:=xQ hty h
  simp [execOp,ho,Instr.fieldAt,run_underlying h1,h2,Instr.sureAddr,hp,fieldPlace,h4.kX,h5,addr_add]
 split
 ·rename_i o' i b off h
  intro _
  obtain ⟨B,hB,hp⟩:=hx
  exact dN R (key h hp) ⟨B,hB,rfl⟩
 ·rename_i o' i k j off h
  simp only [RA,RU,fD] at hx
  simp only [Rd.run]
  split
  ·rename_i y hl
   intro _
   simp only [hl] at hx
   obtain ⟨hj,B,hB,hp⟩:=hx
   refine dN R (key h hp) ?_
   simp only [RA,RU,fD,hl]
   exact ⟨hj,B,hB,by rw [Nat.add_assoc]⟩
  ·rename_i y hl
   intro _
   simp only [hl] at hx
   obtain ⟨hj,hlen,B,o2,hp,hB,hS,hc⟩:=hx
   refine dN R (key h hp) ?_
   simp only [RA,RU,fD,hl]
   exact ⟨hj,hlen,B,o2,by rw [Nat.add_assoc],hB,hS,hc⟩
  exact aO
 ·rename_i o' i l off h
  intro _
  obtain ⟨B,o2,hp,hB,hS,hc⟩:=hx
  exact dN R (key h hp) ⟨B,o2,by rw [Nat.add_assoc],hB,hS,hc⟩
 ·rename_i o' i b l h
  intro hb
  obtain rfl:b=true:=hb
  obtain ⟨B,o2,hp,hB,hS,hc⟩:=FX.1 hx
  exact dN R (key h hp) ⟨B,o2,rfl,hB,hS,hc⟩
 exact aO
theorem QJ (hty:iP P ty) (R:Rel cx st m a w) {t:Nat} {x y:Operand} (ho:o.op= .store t x y) (aY:((kY ty t (valOf st x) (valOf st y)).run st).nO) :
 Good P cx st a w o ((kY ty t (valOf st x) (valOf st y)).run st):=by
 have hx:=R.val x
 have hy:=R.val y
 have hs0:((lG ty t (valOf st x) (valOf st y)).run st).nO->Good P cx st a w o ((lG ty t (valOf st x) (valOf st y)).run st):=λh=>UR hty R ho h
 generalize valOf st x=ax at*
 generalize valOf st y=ay at*
 revert aY
 unfold kY
 split
 ·rename_i k j off kk
  simp only [Rd.run]
  split
  ·rename_i z hl
   simp only [Rd.run]
   split
   ·rename_i d hkk
    split
    ·rename_i i hi
     intro aY
     simp only [Rd.run] at aY ⊢
     obtain ⟨e1,rfl,hj⟩:=aY
     simp only [RA,RU,fD,hl] at hx
     simp only [RA,RU,fD,hkk] at hy
     obtain ⟨_,B,hB,hp⟩:=hx
     obtain ⟨d1,e3,d3⟩:=R.bn.ok k z hl
     obtain ⟨c,T,hc,_,hz⟩:=(R.nG k z.gK (by rw [hl]; rfl)).2 B hB
     have hone:One (a.eval y):=Aj hy
     have hcells:(a.eval y).cells= #[a.eval y]:=hone.1
     have hcsz:j*z.stride+0+1<=c.size:=by
      obtain ⟨u,hu,_⟩:=(hz j hj).2 0 (by show 0<z.stride; omega)
      have:=(Array.getElem?_eq_some_iff.1 hu).1
      have h2:z.gK.stride=z.stride:=rfl
      rw [h2] at this
      omega
     obtain ⟨w',c',hr,s⟩:=pV (hty t i hi) ho hp hc (by rw [hcells,e1]; rfl) (by intro v hv; rw [hcells] at hv; simp at hv; rw [hv]; exact hone) (by rw [e1]; exact hcsz)
     rw [hcells] at s
     have hcell:∀ q,w'.cell? ⟨B,q,none⟩=if q=j then some (a.eval y) else w.cell? ⟨B,q,none⟩:=λq=>by
      have:=s.get q
      simp only [World.cell?,s.row,hc]
      by_cases e:q=j
      ·subst e
       rw [if_pos (by rw [e3]; simp)] at this
       simp only [e3,Nat.mul_one,Nat.add_zero,Nat.sub_self] at this
       rw [if_pos rfl]
       simpa using this
      rw [if_neg (by rw [e3]; simp; omega)] at this
      rw [if_neg e]
      simpa using this
     refine Good.skip (m':=_) hr (R.ak3 hl hkk hj hB s.env s.size s.other (λc2 T2 h2=> ?_) ((hcell j).trans (if_pos rfl)) (λq hq=>(hcell q).trans (if_neg hq)) hy hone) rfl
     rw [hc] at h2
     obtain ⟨rfl,rfl⟩:=by simpa using h2
     exact ⟨c',s.row,s.len⟩
    exact aO
   exact aO
  exact aO
 exact hs0
end
end Go.dR

import Derived.Calls
import Derived.Laws.Sem
import Derived.Laws.Append
import Derived.Laws.MakeOwn
import Derived.Laws.Rows
import Derived.Laws.StructEq
import Derived.Laws.Slices
set_option linter.unusedVariables false
set_option linter.unusedSimpArgs false
namespace Go.Abs
inductive D where
 | undef
 | int (k:IntKind) (n:Int)
 | bool (b:Bool)
 | str (s:ByteArray)
 | err (b:Bool)
 | sl (s n:Nat) (get:Nat→List D)
 | pt (b:Bool) (l:List D)
 | nl
 | fn (f:Nat)
instance:Inhabited D:=⟨.undef⟩
def D.stride:D→Nat | .sl s _ _=>s | _=>0
def D.len:D→Nat | .sl _ n _=>n | _=>0
def D.nth:D→Nat→List D | .sl _ _ g,i=>g i | _,_=>[]
def D.isSl:D→Bool | .sl _ _ _=>true | _=>false
def splice {α:Type} (l:List α) (o:Nat) (ys:List α):List α:=
 l.take o++ys++l.drop (o+ys.length)
def D.app (x:D) (c:List D):D:= .sl x.stride (x.len+1) (fun i=>if i=x.len then c else x.nth i)
def D.setAt (x:D) (i o:Nat) (c:List D):D:= .sl x.stride x.len (fun j=>if j=i then splice (x.nth i) o c else x.nth j)
def D.rep (s n:Nat) (c:List D):D:= .sl s n (fun _=>c)
def D.ofList (s:Nat) (l:List (List D)):D:= .sl s l.length (fun i=>l.getD i [])
def D.sub (x:D) (lo hi:Nat):D:= .sl x.stride (hi - lo) (fun i=>x.nth (lo+i))
def D.cat (x y:D):D:= .sl x.stride (x.len+y.len) (fun i=>if i<x.len then x.nth i else y.nth (i - x.len))
inductive Cap where
 | ref (b off:Nat)
 | sptr (l:List D) (off:Nat)
inductive AC where
 | undef
 | d (x:D)
 | nils
 | own (k:Nat)
 | ref (b off:Nat)
 | optr (k i off:Nat)
 | sptr (l:List D) (off:Nat)
 | clo (f:Nat) (caps:List Cap)
 | yld (l:Nat)
 | bnd (f:Nat) (l:List D)
 | clp (x:D)
 | glob (g off:Nat)
 | bsl (b off n s:Nat)
instance:Inhabited AC:=⟨.undef⟩
inductive AU where
 | c (x:AC)
 | agg (l:List AC)
instance:Inhabited AU:=⟨.c .undef⟩
inductive AV where
 | u (x:AU)
 | tup (l:List AU)
 | cnd (b:Bool) (x:AU)
instance:Inhabited AV:=⟨.u (.c .undef)⟩
@[reducible] def AV.c (x:AC):AV:= .u (.c x)
@[reducible] def AV.agg (l:List AC):AV:= .u (.agg l)
inductive MD where
 | keys (x:D)
 | tab (l:List (Nat×Nat×Nat×Nat×Nat))
inductive Lab where
 | dead
 | owned (x:D)
 | shared (x:D)
 | deep (x:D)
 | set (x:MD)
def yd (x:D) (j:Nat):D:=(x.nth j).getD 0 .undef
def hasS (x:D) (s:ByteArray):Nat→Bool
 | 0=>false
 | n+1=>hasS x s n || (match yd x n with | .str t=>decide (s=t) | _=>false)
def hasD (x:D) (s:ByteArray):Bool:=hasS x s x.len
def nthB (x:D) (i:Nat):List D:=x.nth i
theorem nthB_ofList (s:Nat) (l:List (List D)) (i:Nat):nthB (D.ofList s l) i=l.getD i []:=rfl
def D.holed (x:D):D:= .sl x.stride x.len fun _=>[.undef]
def od:Option Lab→Option D
 | some (.owned x)=>some x
 | some (.deep x)=>some x.holed
 | _=>none
def lk {α:Type}:List (Nat×α)→Nat→Option α
 | [],_=>none
 | (t,v)::r,k=>if t=k then some v else lk r k
def glb:List (Nat×List Int):=[(0,[1,0,-1,0])]
def glbX0:List (Nat×(Array Value→Prop)):=[(2,fun c=>c= #[.int .u64 1,.int .u64 10,.int .u64 100,.int .u64 1000,.int .u64 10000,.int .u64 100000,.int .u64 1000000,.int .u64 10000000,.int .u64 100000000,.int .u64 1000000000,.int .u64 10000000000,.int .u64 100000000000,.int .u64 1000000000000,.int .u64 10000000000000,.int .u64 100000000000000,.int .u64 1000000000000000,.int .u64 10000000000000000,.int .u64 100000000000000000,.int .u64 1000000000000000000,.int .u64 10000000000000000000]),(3,fun c=>∃ m,c[0]? =some (.int .i64 m)),(6,fun c=>∃ t v,c[0]? =some (.iface t v)),(7,fun c=>∃ t v,c[0]? =some (.iface t v))]
def glbS:List (Nat×List ByteArray):=[(1,[⟨#[104,101,97,116]⟩,⟨#[100,119,101,108,108]⟩,⟨#[113,117,101,110,99,104]⟩,⟨#[117,110,116,105,108]⟩,⟨#[99,111,111,108]⟩,⟨#[114,101,112,101,97,116]⟩])]
def strP (l:List ByteArray) (c:Array Value):Prop:=∀ j,j<l.length→c[j]? =some (.string (l.getD j .empty))
def glbX:List (Nat×(Array Value→Prop)):=glbX0++glbS.map fun p=>(p.1,strP p.2)
structure St where
 sl:List (Nat×AV)
 bx:List (Nat×List AC)
 lb:List (Nat×Lab)
inductive Wr where
 | box (b:Nat) (c:List AC)
 | lab (k:Nat) (l:Lab)
structure Out where
 obl:Prop
 dst:AV
 wr:List Wr
def Wr.put (st:St):Wr→St
 | .box b c=> { st with bx:=(b,c)::st.bx }
 | .lab k l=> { st with lb:=(k,l)::st.lb }
def putAll (st:St):List Wr→St
 | []=>st
 | x::r=>putAll (x.put st) r
def St.slot (st:St) (t:Nat) (v:AV):St:= { st with sl:=(t,v)::st.sl }
def St.done (st:St) (dst:Option Nat) (o:Out):St:=
 match dst with
 | some t=>(putAll st o.wr).slot t o.dst
 | none=>putAll st o.wr
inductive Rd (α:Type) where
 | ret (a:α)
 | slot (t:Nat) (k:AV→Rd α)
 | box (b:Nat) (k:Option (List AC)→Rd α)
 | lab (l:Nat) (k:Option Lab→Rd α)
inductive Comp where
 | slot (t:Nat) | box (b:Nat) | lab (l:Nat)
 deriving DecidableEq
def Rd.run {α:Type} (st:St):Rd α→α
 | .ret a=>a
 | .slot t k=>(k ((lk st.sl t).getD default)).run st
 | .box b k=>(k (lk st.bx b)).run st
 | .lab l k=>(k (lk st.lb l)).run st
def Rd.log {α:Type} (st:St):Rd α→List Comp
 | .ret _=>[]
 | .slot t k=> .slot t::(k ((lk st.sl t).getD default)).log st
 | .box b k=> .box b::(k (lk st.bx b)).log st
 | .lab l k=> .lab l::(k (lk st.lb l)).log st
inductive Arg where
 | c (x:D)
 | agg (l:List D)
 | ptr (l:List D)
 | clo (f:Nat) (caps:List (List D))
inductive RC where
 | d (x:D)
 | own (x:D)
inductive RV where
 | c (x:RC)
 | agg (l:List RC)
structure FSpec where
 pre:List Arg→Prop
 res:List Arg→List RV
 alias:Bool
abbrev Fns:=Nat→Option FSpec
def byteAt (s:ByteArray) (i:Nat):Int:=((s.data[i]?.getD 0).toNat:Int)
def zAC:Value→AC
 | .int k n=> .d (.int k n)
 | .bool b=> .d (.bool b)
 | .string s=> .d (.str s)
 | .nilIface=> .d (.err false)
 | .slice none 0 0=> .nils
 | .pointer none=> .d (.pt false [])
 | _=> .undef
def ofValue:Value→AV
 | .agg cs=> .agg (cs.toList.map zAC)
 | v=> .c (zAC v)
def AU.cells:AU→List AC
 | .c x=>[x]
 | .agg l=>l
end Go.Abs
set_option linter.unusedVariables false
set_option linter.unusedSimpArgs false
namespace Go.Abs
def One (v:Value):Prop:=v.cells= #[v]∧v.oneCell'=true
inductive RD (w:World) (S:Nat→Prop):D→Value→Prop
 | undef (v) (h:One v):RD w S .undef v
 | int (k n):RD w S (.int k n) (.int k n)
 | bool (b):RD w S (.bool b) (.bool b)
 | str (s):RD w S (.str s) (.string s)
 | enil:RD w S (.err false) .nilIface
 | esome (t v):RD w S (.err true) (.iface t v)
 | sl0 (s g ao cap):RD w S (.sl s 0 g) (.slice ao 0 cap)
 | nl:RD w S .nl (.slice none 0 0)
 | fn (f):RD w S (.fn f) (.func (.func f) #[] #[])
 | sl (s n g) (B o cap:Nat) (f:Nat→Nat→Value) (hn:0<n) (hcap:n≤cap) (hB:B<w.heap.size) (hS:S B)
  (hl:∀ i,i<n→(g i).length=s)
  (hc:∀ i j,i<n→j<s→w.cell? ⟨B,o+(i*s+j),none⟩=some (f i j))
  (hr:∀ i j,i<n→j<s→RD w S ((g i).getD j .undef) (f i j)):RD w S (.sl s n g) (.slice (some ⟨B,o,none⟩) n cap)
 | pnil (l):RD w S (.pt false l) (.pointer none)
 | ptr (l) (B o:Nat) (f:Nat→Value) (hB:B<w.heap.size) (hS:S B) (hc:∀ j,j<l.length→w.cell? ⟨B,o+j,none⟩=some (f j))
  (hr:∀ j,j<l.length→RD w S (l.getD j .undef) (f j)):RD w S (.pt true l) (.pointer (some ⟨B,o,none⟩))
structure Ext (w w':World) (S S':Nat→Prop):Prop where
 size:w.heap.size≤w'.heap.size
 same:∀ B,B<w.heap.size→S B→w'.heap[B]? =w.heap[B]?
 sub:∀ B,B<w.heap.size→S B→S' B
theorem cell_of_heap {w w':World} {B:Nat} (h:w'.heap[B]? =w.heap[B]?) (o:Nat):w'.cell? ⟨B,o,none⟩=w.cell? ⟨B,o,none⟩:=by
 simp [World.cell?,h]
theorem RD.ext {w w':World} {S S':Nat→Prop} (h:Ext w w' S S') {d:D} {v:Value} (hd:RD w S d v):RD w' S' d v:=by
 induction hd with
 | undef v h=>exact .undef v h
 | int k n=>exact .int k n
 | bool b=>exact .bool b
 | str s=>exact .str s
 | enil=>exact .enil
 | esome t v=>exact .esome t v
 | sl0 s g ao cap=>exact .sl0 s g ao cap
 | nl=>exact .nl
 | fn f=>exact .fn f
 | sl s n g B o cap f hn hcap hB hS hl hc hr ih=>
  refine .sl s n g B o cap f hn hcap (Nat.lt_of_lt_of_le hB h.size) (h.sub B hB hS) hl (fun i j hi hj=> ?_) ih
  rw [cell_of_heap (h.same B hB hS)]; exact hc i j hi hj
 | pnil l=>exact .pnil l
 | ptr l B o f hB hS hc hr ih=>
  refine .ptr l B o f (Nat.lt_of_lt_of_le hB h.size) (h.sub B hB hS) (fun j hj=> ?_) ih
  rw [cell_of_heap (h.same B hB hS)]; exact hc j hj
def GlobOk (w:World):Prop:=(∀ g l,(g,l)∈glb→∃ c T,w.heap[g]? =some (.cells c T (0,0))∧∀ j,j<l.length→c[j]? =some (.int .i64 (l.getD j 0)))∧
 ∀ g p,(g,p)∈glbX→∃ c T z,w.heap[g]? =some (.cells c T z)∧p c
theorem GlobOk.old {w w':World} (h:GlobOk w) (k:∀ B,B<w.heap.size→w'.heap[B]? =w.heap[B]?):GlobOk w':=
 ⟨fun g l hg=>by
  obtain ⟨c,T,h1,h2⟩:=h.1 g l hg
  exact ⟨c,T,by rw [k g (Array.getElem?_eq_some_iff.1 h1).1]; exact h1,h2⟩,
  fun g p hg=>by
   obtain ⟨c,T,z,h1,h2⟩:=h.2 g p hg
   exact ⟨c,T,z,by rw [k g (Array.getElem?_eq_some_iff.1 h1).1]; exact h1,h2⟩⟩
structure Cx where
 S0:Nat→Prop
 w0:World
 glob:GlobOk w0
 nt:Nat
 sus:List (AV×Value):=[]
 recs:List (Nat×Obj):=[]
structure Mp where
 own:Nat→Option Nat
 box:Nat→Option Nat
 inn:Nat→Nat→Option Nat
 mp:Nat→Option Nat
def Sof (cx:Cx) (m:Mp) (B:Nat):Prop:=
 (cx.S0 B∨cx.w0.heap.size≤B)∧(∀ k,m.own k≠some B)∧(∀ b,m.box b≠some B)∧(∀ k j,m.inn k j≠some B)
def Ptr (w:World) (S:Nat→Prop) (l:List D) (off:Nat) (v:Value):Prop:=
 ∃ B o,v= .pointer (some ⟨B,o+off,none⟩)∧B<w.heap.size∧S B∧
  ∀ j,j<l.length→∃ u,w.cell? ⟨B,o+j,none⟩=some u∧RD w S (l.getD j .undef) u
theorem Ptr.ext {w w':World} {S S':Nat→Prop} (h:Ext w w' S S') {l:List D} {off:Nat} {v:Value} (hp:Ptr w S l off v):Ptr w' S' l off v:=by
 obtain ⟨B,o,rfl,hB,hS,hc⟩:=hp
 refine ⟨B,o,rfl,Nat.lt_of_lt_of_le hB h.size,h.sub B hB hS,fun j hj=> ?_⟩
 obtain ⟨u,hu,hr⟩:=hc j hj
 exact ⟨u,by rw [cell_of_heap (h.same B hB hS)]; exact hu,hr.ext h⟩
theorem rd_pt {w:World} {S:Nat→Prop} {l:List D} {v:Value}:RD w S (.pt true l) v↔Ptr w S l 0 v:=by
 constructor
 ·intro h
  cases h with
  | ptr l B o f hB hS hc hr=>exact ⟨B,o,rfl,hB,hS,fun j hj=>⟨f j,hc j hj,hr j hj⟩⟩
 ·rintro ⟨B,o,rfl,hB,hS,hc⟩
  refine .ptr l B o (fun j=>(w.cell? ⟨B,o+j,none⟩).getD undef) hB hS (fun j hj=> ?_) (fun j hj=> ?_)
  ·obtain ⟨u,hu,_⟩:=hc j hj; simp [hu]
  ·obtain ⟨u,hu,hr⟩:=hc j hj; simpa [hu] using hr
def Row (w:World) (S:Nat→Prop) (B:Nat) (x:D):Prop:=
 ∃ c T,w.heap[B]? =some (.cells c T (0,0))∧x.isSl=true∧
  ∀ i,i<x.len→(x.nth i).length=x.stride∧∀ j,j<x.stride→∃ u,c[i*x.stride+j]? =some u∧RD w S ((x.nth i).getD j .undef) u
theorem Row.ext {w w':World} {S S':Nat→Prop} (h:Ext w w' S S') {B:Nat} (hB:w'.heap[B]? =w.heap[B]?) {x:D} (hr:Row w S B x):Row w' S' B x:=by
 obtain ⟨c,T,hc,hs,hx⟩:=hr
 refine ⟨c,T,by rw [hB]; exact hc,hs,fun i hi=>⟨(hx i hi).1,fun j hj=> ?_⟩⟩
 obtain ⟨u,hu,hd⟩:=(hx i hi).2 j hj
 exact ⟨u,hu,hd.ext h⟩
def Hdl (w:World) (own:Option Nat) (x:D) (v:Value):Prop:=
 match own with
 | none=>v= .slice none 0 0∧x.len=0
 | some B=>∃ cap c T,v= .slice (some ⟨B,0,none⟩) x.len cap∧w.heap[B]? =some (.cells c T (0,0))∧c.size=cap*x.stride∧x.len≤cap
def RCap (cx:Cx) (m:Mp) (w:World):Cap→Value→Prop
 | .ref b off,v=>∃ B,m.box b=some B∧v= .pointer (some ⟨B,off,none⟩)
 | .sptr l off,v=>Ptr w (Sof cx m) l off v
def RCl (cx:Cx) (m:Mp) (w:World) (lb:Nat→Option Lab):AC→Value→Prop
 | .undef,_=>True
 | .d x,v=>RD w (Sof cx m) x v
 | .nils,v=>v= .slice none 0 0
 | .own k,v=>
  match lb k with
  | none=>False
  | some .dead=>One v
  | some (.shared x)=>x.isSl=true∧RD w (Sof cx m) x v
  | some (.owned x)=>Hdl w (m.own k) x v
  | some (.deep x)=>Hdl w (m.own k) x v
  | some (.set _)=>∃ B,m.mp k=some B∧v= .map (some B)
 | .ref b off,v=>∃ B,m.box b=some B∧v= .pointer (some ⟨B,off,none⟩)
 | .optr k i off,v=>
  match lb k with
  | none=>False
  | some .dead=>One v
  | some (.shared x)=>i<x.len∧(x.nth i).length=x.stride∧Ptr w (Sof cx m) (x.nth i) off v
  | some (.owned x)=>i<x.len∧∃ B,m.own k=some B∧v= .pointer (some ⟨B,i*x.stride+off,none⟩)
  | some (.deep x)=>i<x.len∧∃ B,m.own k=some B∧v= .pointer (some ⟨B,i*x.stride+off,none⟩)
  | some (.set _)=>False
 | .sptr l off,v=>Ptr w (Sof cx m) l off v
 | .clo f caps,v=>∃ vs,v= .func (.func f) #[] vs∧vs.size=caps.length∧∀ i,i<caps.length→∃ u,vs[i]? =some u∧RCap cx m w (caps.getD i (.ref 0 0)) u
 | .yld l,v=>v= .func (.yield l) #[] #[]
 | .clp x,v=>x.isSl=true∧RD w (Sof cx m) x v∧∃ b,v= .slice b x.len x.len
 | .glob g off,v=>v= .pointer (some ⟨g,off,none⟩)
 | .bsl b off n _,v=>∃ B cap,m.box b=some B∧n≤cap∧v= .slice (some ⟨B,off,none⟩) n cap
 | .bnd f l,v=>∃ us,v= .func (.func f) #[.agg us] #[]∧us.size=l.length∧∀ i,i<l.length→∃ u,us[i]? =some u∧RD w (Sof cx m) (l.getD i .undef) u
def RU (cx:Cx) (m:Mp) (w:World) (lb:Nat→Option Lab):AU→Value→Prop
 | .c x,v=>RCl cx m w lb x v
 | .agg l,v=>∃ vs,v= .agg vs∧vs.size=l.length∧∀ i,i<l.length→∃ u,vs[i]? =some u∧RCl cx m w lb (l.getD i .undef) u
def RA (cx:Cx) (m:Mp) (w:World) (lb:Nat→Option Lab):AV→Value→Prop
 | .u x,v=>RU cx m w lb x v
 | .tup l,v=>∃ vs,v= .tuple vs∧vs.size=l.length∧∀ i,i<l.length→∃ u,vs[i]? =some u∧RU cx m w lb (l.getD i (.c .undef)) u
 | .cnd b x,v=>(b=true→RU cx m w lb x v)∧(b=false→v=undef)
def SameEnv (w w':World):Prop:=w'.os=w.os∧w'.tape=w.tape∧w'.output=w.output
theorem SameEnv.refl (w:World):SameEnv w w:=⟨rfl,rfl,rfl⟩
theorem SameEnv.trans {a b c:World} (h:SameEnv a b) (k:SameEnv b c):SameEnv a c:=⟨k.1.trans h.1,k.2.1.trans h.2.1,k.2.2.trans h.2.2⟩
def NotC (o:Obj):Prop:=∀ c T z,o≠ .cells c T z
def NoCells (o:Obj):Prop:=NotC o∧∀ es c,o≠ .map es c
def KeepsObj (w w':World):Prop:=∀ (B:Nat) (o:Obj),w.heap[B]? =some o→NotC o→w'.heap[B]? =some o
theorem KeepsObj.refl (w:World):KeepsObj w w:=fun _ _ h _=>h
theorem KeepsObj.trans {a b c:World} (h:KeepsObj a b) (k:KeepsObj b c):KeepsObj a c:=fun B o h1 h2=>k B o (h B o h1 h2) h2
theorem KeepsObj.grow {w w':World} (h:∀ B,B<w.heap.size→w'.heap[B]? =w.heap[B]?):KeepsObj w w':=fun B o h1 _=>by
 rw [h B (Array.getElem?_eq_some_iff.1 h1).1]; exact h1
theorem KeepsObj.one {w w':World} {B:Nat} {c:Array Value} {T:TypeId} {z:Nat×Nat} (hB:w.heap[B]? =some (.cells c T z)) (h:∀ B',B'≠B→w'.heap[B']? =w.heap[B']?):KeepsObj w w':=fun B' o h1 h2=>by
 by_cases e:B'=B
 ·subst e; rw [hB] at h1; exact absurd (Option.some.inj h1).symm (h2 _ _ _)
 ·rw [h B' e]; exact h1
def mark (D:Nat):Deferred:= { target:= .collected D,args:= #[] }
structure Marks (cx:Cx) (w:World) (ds:List Deferred) (Ds:List Nat):Prop where
 eq:ds=Ds.map mark
 nodup:Ds.Nodup
 lo:∀ D∈Ds,cx.w0.heap.size≤D
 here:∀ D∈Ds,w.heap[D]? =some (.deferred (some []))
 own:∀ D∈Ds,∀ p∈cx.recs,p.1≠D
theorem Marks.keeps {cx:Cx} {w w':World} {ds:List Deferred} {Ds:List Nat} (h:Marks cx w ds Ds) (k:KeepsObj w w'):Marks cx w' ds Ds:=
 { h with here:=fun D hD=>k D _ (h.here D hD) (fun _ _ _ e=>by cases e) }
def DeepAt (m:Mp) (w:World) (S:Nat→Prop) (k:Nat) (x:D) (j:Nat):Prop:=
 (yd x j= .undef∧m.inn k j=none)∨
 ((yd x j).isSl=true∧(∃ B u,m.own k=some B∧w.cell? ⟨B,j,none⟩=some u∧Hdl w (m.inn k j) (yd x j) u)∧∀ B,m.inn k j=some B→Row w S B (yd x j))
structure Deeps (cx:Cx) (lb:Nat→Option Lab) (m:Mp) (w:World):Prop where
 ok:∀ k x,lb k=some (.deep x)→x.isSl=true∧x.stride=1∧∀ j,j<x.len→(x.nth j).length=1∧DeepAt m w (Sof cx m) k x j
 only:∀ k j B,m.inn k j=some B→∃ x,lb k=some (.deep x)∧j<x.len
 blk:∀ k j B,m.inn k j=some B→cx.w0.heap.size≤B∧B<w.heap.size
 inj:∀ k j k' j' B,m.inn k j=some B→m.inn k' j'=some B→k=k'∧j=j'
 own:∀ k j k' B,m.inn k j=some B→m.own k'≠some B
 box:∀ k j b B,m.inn k j=some B→m.box b≠some B
def SetAt (w:World) (B:Nat) (x:D):Prop:=
 ∃ es c,w.heap[B]? =some (.map es c)∧(∀ e∈es.toList,(∃ s,e.key= .string s)∧e.val= .bool true)∧∀ s,(∃ e∈es.toList,e.key= .string s)↔∃ i,i<x.len∧yd x i= .str s
def TabAt (cx:Cx) (m:Mp) (w:World) (lb:Nat→Option Lab) (B:Nat) (l:List (Nat×Nat×Nat×Nat×Nat)):Prop:=
 ∃ es c,w.heap[B]? =some (.map es c)∧(∀ e∈es.toList,∃ (k b off n s:Nat),e.key= .int .i64 (k:Int)∧lk l k=some (b,off,n,s)∧RCl cx m w lb (.bsl b off n s) e.val)∧
  ∀ k x,lk l k=some x→∃ e∈es.toList,e.key= .int .i64 (k:Int)
def MapAt (cx:Cx) (m:Mp) (w:World) (lb:Nat→Option Lab) (B:Nat):MD→Prop
 | .keys x=>x.isSl=true∧SetAt w B x
 | .tab l=>TabAt cx m w lb B l
structure Sets (cx:Cx) (lb:Nat→Option Lab) (m:Mp) (w:World):Prop where
 ok:∀ k x,lb k=some (.set x)→∃ B,m.mp k=some B∧MapAt cx m w lb B x
 blk:∀ k B,m.mp k=some B→cx.w0.heap.size≤B∧B<w.heap.size
 inj:∀ k k' B,m.mp k=some B→m.mp k'=some B→k=k'
theorem MapAt.keep {cx cx':Cx} {m m':Mp} {w w':World} {lb lb':Nat→Option Lab} {B:Nat} {M:MD} (h:MapAt cx m w lb B M) (hb:∀ es c,w.heap[B]? =some (.map es c)→w'.heap[B]? =some (.map es c)) (hr:∀ x v,RCl cx m w lb x v→RCl cx' m' w' lb' x v):MapAt cx' m' w' lb' B M:=by
 cases M with
 | keys x=>obtain ⟨h0,es,c,h1,h2⟩:=h; exact ⟨h0,es,c,hb _ _ h1,h2⟩
 | tab l=>
  obtain ⟨es,c,h1,h2,h3⟩:=h
  refine ⟨es,c,hb _ _ h1,fun e he=> ?_,h3⟩
  obtain ⟨k,b,off,n,s,e1,e2,e3⟩:=h2 e he
  exact ⟨k,b,off,n,s,e1,e2,hr _ _ e3⟩
theorem Sets.keep {cx:Cx} {lb lb':Nat→Option Lab} {m m':Mp} {w w':World} (S:Sets cx lb m w) (hmp:m'.mp=m.mp) (hlb:∀ k x,lb' k=some (.set x)→lb k=some (.set x)) (hk:KeepsObj w w') (hs:w.heap.size≤w'.heap.size) (hr:∀ x v,RCl cx m w lb x v→RCl cx m' w' lb' x v):Sets cx lb' m' w' where
 ok:=fun k x h=>by
  obtain ⟨B,h1,h2⟩:=S.ok k x (hlb k x h)
  exact ⟨B,by rw [hmp]; exact h1,h2.keep (fun es c h=>hk B _ h (fun _ _ _ e=>by cases e)) hr⟩
 blk:=fun k B h=>by rw [hmp] at h; exact ⟨(S.blk k B h).1,Nat.lt_of_lt_of_le (S.blk k B h).2 hs⟩
 inj:=by rw [hmp]; exact S.inj
structure Rel (cx:Cx) (st:St) (m:Mp) (a:Act) (w:World):Prop where
 defers:∃ Ds,Marks cx w a.defers Ds
 recs:∀ p,p∈cx.recs→cx.w0.heap.size≤p.1∧w.heap[p.1]? =some p.2∧NoCells p.2
 nt:a.tmps.size=cx.nt
 env:SameEnv cx.w0 w
 size:cx.w0.heap.size≤w.heap.size
 old:∀ B,B<cx.w0.heap.size→w.heap[B]? =cx.w0.heap[B]?
 s0:∀ B,cx.S0 B→B<cx.w0.heap.size
 slots:∀ t v,lk st.sl t=some v→t<cx.nt∧RA cx m w (lk st.lb) v (a.tmps.getD t undef)
 sus:∀ p,p∈cx.sus→RA cx m w (lk st.lb) p.1 p.2
 boxes:∀ b cs,lk st.bx b=some cs→∃ B c T,m.box b=some B∧w.heap[B]? =some (.cells c T (0,0))∧c.size=cs.length∧
  ∀ j,j<cs.length→∃ u,c[j]? =some u∧RCl cx m w (lk st.lb) (cs.getD j .undef) u
 nobox:∀ b,lk st.bx b=none→m.box b=none
 ods:∀ k x,od (lk st.lb k)=some x→x.isSl=true∧∀ B,m.own k=some B→Row w (Sof cx m) B x
 noods:∀ k,od (lk st.lb k)=none→m.own k=none
 deeps:Deeps cx (lk st.lb) m w
 sets:Sets cx (lk st.lb) m w
 ownb:∀ k B,m.own k=some B→cx.w0.heap.size≤B∧B<w.heap.size
 boxb:∀ b B,m.box b=some B→cx.w0.heap.size≤B∧B<w.heap.size
 injo:∀ k k' B,m.own k=some B→m.own k'=some B→k=k'
 injb:∀ b b' B,m.box b=some B→m.box b'=some B→b=b'
 dis:∀ k b B,m.own k=some B→m.box b≠some B
theorem Rel.owned {cx:Cx} {st:St} {m:Mp} {a:Act} {w:World} (R:Rel cx st m a w) (k:Nat) (x:D) (h:lk st.lb k=some (.owned x)):x.isSl=true∧∀ B,m.own k=some B→Row w (Sof cx m) B x:=
 R.ods k x (by rw [h]; rfl)
theorem Rel.noown {cx:Cx} {st:St} {m:Mp} {a:Act} {w:World} (R:Rel cx st m a w) (k:Nat) (h:lk st.lb k=none):m.own k=none:=
 R.noods k (by rw [h]; rfl)
theorem Hdl.same {w w':World} {o:Option Nat} {x:D} {v:Value} (h:Hdl w o x v) (g:∀ B,o=some B→w'.heap[B]? =w.heap[B]?):Hdl w' o x v:=by
 unfold Hdl at h ⊢
 cases o with
 | none=>exact h
 | some B=>
  obtain ⟨cap,c,T,q1,q2,q3,q4⟩:=h
  exact ⟨cap,c,T,q1,by rw [g B rfl]; exact q2,q3,q4⟩
theorem Deeps.keep {cx:Cx} {lb lb':Nat→Option Lab} {m m':Mp} {w w':World} (D:Deeps cx lb m w) (hinn:m'.inn=m.inn)
 (hlb:∀ k x,lb' k=some (.deep x)↔lb k=some (.deep x)) (hown:∀ k x,lb k=some (.deep x)→m'.own k=m.own k)
 (hext:Ext w w' (Sof cx m) (Sof cx m')) (hb:∀ k x B,lb k=some (.deep x)→m.own k=some B→w'.heap[B]? =w.heap[B]?)
 (hi:∀ k j B,m.inn k j=some B→w'.heap[B]? =w.heap[B]?)
 (how:∀ k B,m'.own k=some B→(∃ k',m.own k'=some B)∨w.heap.size≤B)
 (hbx:∀ b B,m'.box b=some B→(∃ b',m.box b'=some B)∨w.heap.size≤B):Deeps cx lb' m' w' where
 ok:=fun k x hk=>by
  have hk0:=(hlb k x).1 hk
  obtain ⟨h1,h2,h3⟩:=D.ok k x hk0
  refine ⟨h1,h2,fun j hj=>⟨(h3 j hj).1,?_⟩⟩
  have e0:m'.inn k j=m.inn k j:=by rw [hinn]
  rcases (h3 j hj).2 with ⟨g1,g2⟩ | ⟨g1,⟨B,u,g2,g3,g4⟩,g5⟩
  ·exact .inl ⟨g1,by rw [e0]; exact g2⟩
  ·refine .inr ⟨g1,⟨B,u,by rw [hown k x hk0]; exact g2,by rw [cell_of_heap (hb k x B hk0 g2)]; exact g3,?_⟩,fun B' hB'=> ?_⟩
   ·rw [e0]; exact g4.same (fun B' h=>hi k j B' h)
   ·rw [e0] at hB'; exact (g5 B' hB').ext hext (hi k j B' hB')
 only:=fun k j B h=>by
  rw [hinn] at h
  obtain ⟨x,h1,h2⟩:=D.only k j B h
  exact ⟨x,(hlb k x).2 h1,h2⟩
 blk:=fun k j B h=>by
  rw [hinn] at h
  exact ⟨(D.blk k j B h).1,Nat.lt_of_lt_of_le (D.blk k j B h).2 hext.size⟩
 inj:=by rw [hinn]; exact D.inj
 own:=fun k j k' B h h'=>by
  rw [hinn] at h
  rcases how k' B h' with ⟨k2,h2⟩ | h2
  ·exact D.own k j k2 B h h2
  ·have:=(D.blk k j B h).2; omega
 box:=fun k j b B h h'=>by
  rw [hinn] at h
  rcases hbx b B h' with ⟨b2,h2⟩ | h2
  ·exact D.box k j b2 B h h2
  ·have:=(D.blk k j B h).2; omega
end Go.Abs
set_option linter.unusedVariables false
set_option linter.unusedSimpArgs false
namespace Go.Abs
theorem D.eta {x:D} (h:x.isSl=true):x= .sl x.stride x.len x.nth:=by
 cases x<;>first | rfl | (simp [D.isSl] at h)
def SizeKept (w w':World) (B:Nat):Prop:=
 ∀ c T,w.heap[B]? =some (.cells c T (0,0))→∃ c',w'.heap[B]? =some (.cells c' T (0,0))∧c'.size=c.size
theorem SizeKept.of_eq {w w':World} {B:Nat} (h:w'.heap[B]? =w.heap[B]?):SizeKept w w' B:=fun c T hc=>⟨c,by rw [h]; exact hc,rfl⟩
def LabOk (cx:Cx) (m:Mp) (w:World) (lb:Nat→Option Lab) (m':Mp) (w':World) (lb':Nat→Option Lab) (k:Nat):Prop:=
 match lb k with
 | none=>True
 | some .dead=>lb' k=some .dead
 | some (.shared x)=>lb' k=some .dead∨lb' k=some (.shared x)
 | some (.owned x)=>lb' k=some .dead∨
  (∃ x',od (lb' k)=some x'∧x'.len=x.len∧x'.stride=x.stride∧m'.own k=m.own k∧∀ B,m.own k=some B→SizeKept w w' B)∨
  (lb' k=some (.shared x)∧x.isSl=true∧∀ B,m.own k=some B→Row w' (Sof cx m') B x∧Sof cx m' B∧B<w'.heap.size)
 | some (.deep x)=>lb' k=some .dead∨
  (∃ x',od (lb' k)=some x'∧x'.len=x.len∧x'.stride=x.stride∧m'.own k=m.own k∧∀ B,m.own k=some B→SizeKept w w' B)∨
  (lb' k=some (.shared x)∧x.isSl=true∧∀ B,m.own k=some B→Row w' (Sof cx m') B x∧Sof cx m' B∧B<w'.heap.size)
 | some (.set x)=>lb' k=some .dead∨∃ x',lb' k=some (.set x')∧m'.mp k=m.mp k
structure Move (cx:Cx) (m:Mp) (w:World) (lb:Nat→Option Lab) (m':Mp) (w':World) (lb':Nat→Option Lab):Prop where
 ext:Ext w w' (Sof cx m) (Sof cx m')
 box:∀ b B,m.box b=some B→m'.box b=some B
 lab:∀ k,LabOk cx m w lb m' w' lb' k
theorem od_cases {L:Option Lab} {x:D} (h:od L=some x):L=some (.owned x)∨∃ z,L=some (.deep z)∧x=z.holed:=by
 unfold od at h
 split at h
 ·obtain rfl:=Option.some.inj h; exact .inl rfl
 ·rename_i z; obtain rfl:=Option.some.inj h; exact .inr ⟨z,rfl,rfl⟩
 ·cases h
theorem row_ptr {w:World} {S:Nat→Prop} {B:Nat} {x:D} (hr:Row w S B x) (hS:S B) (hB:B<w.heap.size) {i:Nat} (hi:i<x.len) (off:Nat) :
 Ptr w S (x.nth i) off (.pointer (some ⟨B,i*x.stride+off,none⟩)):=by
 obtain ⟨c,T,hc,hs,hx⟩:=hr
 refine ⟨B,i*x.stride,rfl,hB,hS,fun j hj=> ?_⟩
 rw [(hx i hi).1] at hj
 obtain ⟨u,hu,hd⟩:=(hx i hi).2 j hj
 exact ⟨u,by simp [World.cell?,hc,hu],hd⟩
theorem row_rd {w:World} {S:Nat→Prop} {B:Nat} {x:D} (hr:Row w S B x) (hS:S B) (hB:B<w.heap.size) {cap:Nat} (hle:x.len≤cap) :
 RD w S x (.slice (some ⟨B,0,none⟩) x.len cap):=by
 obtain ⟨c,T,hc,hs,hx⟩:=hr
 by_cases hn:x.len=0
 ·have he:=D.eta hs
  generalize x.stride=s at he; generalize x.nth=g at he
  rw [hn] at he ⊢
  rw [he]; exact .sl0 _ _ _ _
 ·have he:=D.eta hs
  suffices h:RD w S (.sl x.stride x.len x.nth) (.slice (some ⟨B,0,none⟩) x.len cap) by rw [← he] at h; exact h
  refine .sl _ _ _ B 0 cap (fun i j=>c.getD (i*x.stride+j) undef) (Nat.pos_of_ne_zero hn) hle hB hS (fun i hi=>(hx i hi).1) (fun i j hi hj=> ?_) (fun i j hi hj=> ?_)
  ·obtain ⟨u,hu,_⟩:=(hx i hi).2 j hj
   simp [World.cell?,hc,Array.getD_eq_getD_getElem?,hu]
  ·obtain ⟨u,hu,hd⟩:=(hx i hi).2 j hj
   simpa [Array.getD_eq_getD_getElem?,hu] using hd
theorem rd_sl_one {w:World} {S:Nat→Prop} {x:D} {v:Value} (hs:x.isSl=true) (h:RD w S x v):One v:=by
 cases h<;>first | exact ⟨rfl,rfl⟩ | simp [D.isSl] at hs
theorem RD.one {w:World} {S:Nat→Prop} {x:D} {v:Value} (h:RD w S x v):One v:=by
 cases h<;>first | exact ⟨rfl,rfl⟩ | assumption
theorem hdl_one {w:World} {o:Option Nat} {x:D} {v:Value} (h:Hdl w o x v):One v:=by
 unfold Hdl at h
 split at h
 ·obtain ⟨rfl,_⟩:=h; exact ⟨rfl,rfl⟩
 ·obtain ⟨_,_,_,rfl,_⟩:=h; exact ⟨rfl,rfl⟩
variable {cx:Cx} {m m':Mp} {w w':World} {lb lb':Nat→Option Lab}
theorem RCap.move (h:Move cx m w lb m' w' lb') {x:Cap} {v:Value} (hx:RCap cx m w x v):RCap cx m' w' x v:=by
 cases x with
 | ref b off=>obtain ⟨B,hb,rfl⟩:=hx; exact ⟨B,h.box b B hb,rfl⟩
 | sptr l off=>exact Ptr.ext h.ext hx
theorem RCl.move (h:Move cx m w lb m' w' lb') {x:AC} {v:Value} (hx:RCl cx m w lb x v):RCl cx m' w' lb' x v:=by
 cases x with
 | undef=>trivial
 | d x=>exact RD.ext h.ext hx
 | nils=>exact hx
 | own k=>
  have hk:=h.lab k
  simp only [RCl,LabOk] at*
  cases hl:lb k with
  | none=>simp [hl] at hx
  | some L=>
   cases L with
   | dead=>simp only [hl] at hk hx; simp [hk,hx]
   | shared y=>
    simp only [hl] at hk hx
    rcases hk with hk | hk<;>simp only [hk]
    ·exact rd_sl_one hx.1 hx.2
    ·exact ⟨hx.1,hx.2.ext h.ext⟩
   | owned y=>
    simp only [hl] at hk hx
    rcases hk with hk | ⟨x',hk,e1,e2,e3,hs⟩ | ⟨hk,hsl,hr⟩
    ·simp only [hk]; exact hdl_one hx
    ·have hH:Hdl w' (m'.own k) x' v:=by
      rw [e3]
      cases ho:m.own k with
      | none=>simp only [ho,Hdl] at hx ⊢; exact ⟨hx.1,by rw [e1]; exact hx.2⟩
      | some B=>
       simp only [ho,Hdl] at hx ⊢
       obtain ⟨cap,c,T,rfl,hc,hsz,hle⟩:=hx
       obtain ⟨c',hc',hsz'⟩:=hs B ho c T hc
       exact ⟨cap,c',T,by rw [e1],hc',by rw [hsz',hsz,e2],by rw [e1]; exact hle⟩
     rcases od_cases hk with q | ⟨z,q,rfl⟩<;>simp only [q]<;>exact hH
    ·simp only [hk]
     refine ⟨hsl,?_⟩
     cases ho:m.own k with
     | none=>
      simp only [ho,Hdl] at hx
      obtain ⟨rfl,hn⟩:=hx
      rw [D.eta hsl,hn]; exact .sl0 _ _ _ _
     | some B=>
      simp only [ho,Hdl] at hx
      obtain ⟨cap,c,T,rfl,_,_,hle⟩:=hx
      exact row_rd (hr B ho).1 (hr B ho).2.1 (hr B ho).2.2 hle
   | deep y=>
    simp only [hl] at hk hx
    rcases hk with hk | ⟨x',hk,e1,e2,e3,hs⟩ | ⟨hk,hsl,hr⟩
    ·simp only [hk]; exact hdl_one hx
    ·have hH:Hdl w' (m'.own k) x' v:=by
      rw [e3]
      cases ho:m.own k with
      | none=>simp only [ho,Hdl] at hx ⊢; exact ⟨hx.1,by rw [e1]; exact hx.2⟩
      | some B=>
       simp only [ho,Hdl] at hx ⊢
       obtain ⟨cap,c,T,rfl,hc,hsz,hle⟩:=hx
       obtain ⟨c',hc',hsz'⟩:=hs B ho c T hc
       exact ⟨cap,c',T,by rw [e1],hc',by rw [hsz',hsz,e2],by rw [e1]; exact hle⟩
     rcases od_cases hk with q | ⟨z,q,rfl⟩<;>simp only [q]<;>exact hH
    ·simp only [hk]
     refine ⟨hsl,?_⟩
     cases ho:m.own k with
     | none=>
      simp only [ho,Hdl] at hx
      obtain ⟨rfl,hn⟩:=hx
      rw [D.eta hsl,hn]; exact .sl0 _ _ _ _
     | some B=>
      simp only [ho,Hdl] at hx
      obtain ⟨cap,c,T,rfl,_,_,hle⟩:=hx
      exact row_rd (hr B ho).1 (hr B ho).2.1 (hr B ho).2.2 hle
   | set y=>
    simp only [hl] at hk hx
    obtain ⟨B,h1,rfl⟩:=hx
    rcases hk with hk | ⟨x',hk,e⟩<;>simp only [hk]
    ·exact ⟨rfl,rfl⟩
    ·exact ⟨B,by rw [e]; exact h1,rfl⟩
 | ref b off=>obtain ⟨B,hb,rfl⟩:=hx; exact ⟨B,h.box b B hb,rfl⟩
 | optr k i off=>
  have hk:=h.lab k
  simp only [RCl,LabOk] at*
  cases hl:lb k with
  | none=>simp [hl] at hx
  | some L=>
   cases L with
   | dead=>simp only [hl] at hk hx; simp [hk,hx]
   | shared y=>
    simp only [hl] at hk hx
    rcases hk with hk | hk<;>simp only [hk]
    ·obtain ⟨_,_,B,o,rfl,_⟩:=hx; exact ⟨rfl,rfl⟩
    ·exact ⟨hx.1,hx.2.1,hx.2.2.ext h.ext⟩
   | owned y=>
    simp only [hl] at hk hx
    obtain ⟨hi,B,ho,rfl⟩:=hx
    rcases hk with hk | ⟨x',hk,e1,e2,e3,hs⟩ | ⟨hk,hsl,hr⟩
    ·simp only [hk]; exact ⟨rfl,rfl⟩
    ·have hH:i<x'.len∧∃ B',m'.own k=some B'∧Value.pointer (some ⟨B,i*y.stride+off,none⟩)= .pointer (some ⟨B',i*x'.stride+off,none⟩):=⟨by rw [e1]; exact hi,B,by rw [e3]; exact ho,by rw [e2]⟩
     rcases od_cases hk with q | ⟨z,q,rfl⟩<;>simp only [q]<;>exact hH
    ·simp only [hk]
     obtain ⟨hrow,hS,hB⟩:=hr B ho
     refine ⟨hi,?_,row_ptr hrow hS hB hi off⟩
     obtain ⟨c,T,hc,hs,hx⟩:=hrow
     exact (hx i hi).1
   | deep y=>
    simp only [hl] at hk hx
    obtain ⟨hi,B,ho,rfl⟩:=hx
    rcases hk with hk | ⟨x',hk,e1,e2,e3,hs⟩ | ⟨hk,hsl,hr⟩
    ·simp only [hk]; exact ⟨rfl,rfl⟩
    ·have hH:i<x'.len∧∃ B',m'.own k=some B'∧Value.pointer (some ⟨B,i*y.stride+off,none⟩)= .pointer (some ⟨B',i*x'.stride+off,none⟩):=⟨by rw [e1]; exact hi,B,by rw [e3]; exact ho,by rw [e2]⟩
     rcases od_cases hk with q | ⟨z,q,rfl⟩<;>simp only [q]<;>exact hH
    ·simp only [hk]
     obtain ⟨hrow,hS,hB⟩:=hr B ho
     refine ⟨hi,?_,row_ptr hrow hS hB hi off⟩
     obtain ⟨c,T,hc,hs,hx⟩:=hrow
     exact (hx i hi).1
   | set y=>simp only [hl] at hx
 | sptr l off=>exact Ptr.ext h.ext hx
 | clo f caps=>
  obtain ⟨vs,rfl,hsz,hc⟩:=hx
  refine ⟨vs,rfl,hsz,fun i hi=> ?_⟩
  obtain ⟨u,hu,hr⟩:=hc i hi
  exact ⟨u,hu,hr.move h⟩
 | yld l=>exact hx
 | clp x=>exact ⟨hx.1,hx.2.1.ext h.ext,hx.2.2⟩
 | glob g off=>exact hx
 | bsl b off n s=>obtain ⟨B,cap,hb,hn,rfl⟩:=hx; exact ⟨B,cap,h.box b B hb,hn,rfl⟩
 | bnd f l=>
  obtain ⟨us,rfl,hsz,hc⟩:=hx
  refine ⟨us,rfl,hsz,fun i hi=> ?_⟩
  obtain ⟨u,hu,hr⟩:=hc i hi
  exact ⟨u,hu,hr.ext h.ext⟩
theorem RU.move (h:Move cx m w lb m' w' lb') {x:AU} {v:Value} (hx:RU cx m w lb x v):RU cx m' w' lb' x v:=by
 cases x with
 | c x=>exact RCl.move h hx
 | agg l=>
  obtain ⟨vs,rfl,hsz,hc⟩:=hx
  refine ⟨vs,rfl,hsz,fun i hi=> ?_⟩
  obtain ⟨u,hu,hr⟩:=hc i hi
  exact ⟨u,hu,RCl.move h hr⟩
theorem RA.move (h:Move cx m w lb m' w' lb') {x:AV} {v:Value} (hx:RA cx m w lb x v):RA cx m' w' lb' x v:=by
 cases x with
 | u x=>exact RU.move h hx
 | tup l=>
  obtain ⟨vs,rfl,hsz,hc⟩:=hx
  refine ⟨vs,rfl,hsz,fun i hi=> ?_⟩
  obtain ⟨u,hu,hr⟩:=hc i hi
  exact ⟨u,hu,RU.move h hr⟩
 | cnd b x=>exact ⟨fun hb=>RU.move h (hx.1 hb),hx.2⟩
end Go.Abs
set_option linter.unusedVariables false
set_option linter.unusedSimpArgs false
namespace Go.Abs
def upd (f:Nat→Option Nat) (k:Nat) (v:Option Nat):Nat→Option Nat:=fun i=>if i=k then v else f i
theorem upd_same (f:Nat→Option Nat) (k:Nat) (v:Option Nat):upd f k v k=v:=by simp [upd]
theorem upd_other {f:Nat→Option Nat} {k i:Nat} {v:Option Nat} (h:i≠k):upd f k v i=f i:=by simp [upd,h]
theorem lk_same {α:Type} (k:Nat) (v:α) (l:List (Nat×α)):lk ((k,v)::l) k=some v:=by simp [lk]
theorem lk_other {α:Type} {k i:Nat} {v:α} {l:List (Nat×α)} (h:i≠k):lk ((k,v)::l) i=lk l i:=by simp [lk,Ne.symm h]
variable {cx:Cx} {st:St} {m m':Mp} {a:Act} {w w':World}
theorem Rel.slot (R:Rel cx st m a w) {t:Nat} {v:AV} {u:Value} (ht:t<cx.nt) (hv:RA cx m w (lk st.lb) v u) :
 Rel cx (st.slot t v) m (a.put (some t) u) w:=by
 refine { R with slots:=fun t' v' hl=> ?_,nt:=by simp [Act.put,R.nt],defers:=R.defers }
 by_cases h:t'=t
 ·subst h
  rw [St.slot,lk_same] at hl
  obtain rfl:=Option.some.inj hl
  refine ⟨ht,?_⟩
  simp only [Act.put,Array.getD_eq_getD_getElem?]
  rw [Array.getElem?_setIfInBounds_self_of_lt (by rw [R.nt]; exact ht)]
  exact hv
 ·rw [St.slot,lk_other h] at hl
  obtain ⟨h1,h2⟩:=R.slots t' v' hl
  refine ⟨h1,?_⟩
  change RA cx m w (lk st.lb) v' _
  simpa [Act.put,Array.getD_eq_getD_getElem?,Array.getElem?_setIfInBounds,Ne.symm h] using h2
theorem Rel.of_move0 (R:Rel cx st m a w) {bx:List (Nat×List AC)} {lb:List (Nat×Lab)}
 (he:SameEnv w w') (hm:Move cx m w (lk st.lb) m' w' (lk lb)) (hold:∀ B,B<cx.w0.heap.size→w'.heap[B]? =w.heap[B]?) (hrec:KeepsObj w w')
 (boxes:∀ b cs,lk bx b=some cs→∃ B c T,m'.box b=some B∧w'.heap[B]? =some (.cells c T (0,0))∧c.size=cs.length∧
  ∀ j,j<cs.length→∃ u,c[j]? =some u∧RCl cx m' w' (lk lb) (cs.getD j .undef) u)
 (nobox:∀ b,lk bx b=none→m'.box b=none)
 (ods:∀ k x,od (lk lb k)=some x→x.isSl=true∧∀ B,m'.own k=some B→Row w' (Sof cx m') B x)
 (noods:∀ k,od (lk lb k)=none→m'.own k=none)
 (deeps:Deeps cx (lk lb) m' w')
 (ownb:∀ k B,m'.own k=some B→cx.w0.heap.size≤B∧B<w'.heap.size)
 (boxb:∀ b B,m'.box b=some B→cx.w0.heap.size≤B∧B<w'.heap.size)
 (injo:∀ k k' B,m'.own k=some B→m'.own k'=some B→k=k')
 (injb:∀ b b' B,m'.box b=some B→m'.box b'=some B→b=b')
 (dis:∀ k b B,m'.own k=some B→m'.box b≠some B) (sets:Sets cx (lk lb) m' w'):Rel cx ⟨st.sl,bx,lb⟩ m' a w' where
 defers:=R.defers.imp fun _ h=>h.keeps hrec
 recs:=fun p hp=>⟨(R.recs p hp).1,hrec _ _ (R.recs p hp).2.1 (R.recs p hp).2.2.1,(R.recs p hp).2.2⟩
 nt:=R.nt
 env:=R.env.trans he
 size:=Nat.le_trans R.size hm.ext.size
 old:=fun B hB=>(hold B hB).trans (R.old B hB)
 s0:=R.s0
 slots:=fun t v hl=>⟨(R.slots t v hl).1,RA.move hm (R.slots t v hl).2⟩
 sus:=fun p hp=>RA.move hm (R.sus p hp)
 boxes:=boxes
 nobox:=nobox
 ods:=ods
 noods:=noods
 deeps:=deeps
 sets:=sets
 ownb:=ownb
 boxb:=boxb
 injo:=injo
 injb:=injb
 dis:=dis
theorem Rel.of_move (R:Rel cx st m a w) {bx:List (Nat×List AC)} {lb:List (Nat×Lab)}
 (he:SameEnv w w') (hm:Move cx m w (lk st.lb) m' w' (lk lb)) (hold:∀ B,B<cx.w0.heap.size→w'.heap[B]? =w.heap[B]?) (hrec:KeepsObj w w')
 (boxes:∀ b cs,lk bx b=some cs→∃ B c T,m'.box b=some B∧w'.heap[B]? =some (.cells c T (0,0))∧c.size=cs.length∧
  ∀ j,j<cs.length→∃ u,c[j]? =some u∧RCl cx m' w' (lk lb) (cs.getD j .undef) u)
 (nobox:∀ b,lk bx b=none→m'.box b=none)
 (ods:∀ k x,od (lk lb k)=some x→x.isSl=true∧∀ B,m'.own k=some B→Row w' (Sof cx m') B x)
 (noods:∀ k,od (lk lb k)=none→m'.own k=none)
 (deeps:Deeps cx (lk lb) m' w')
 (ownb:∀ k B,m'.own k=some B→cx.w0.heap.size≤B∧B<w'.heap.size)
 (boxb:∀ b B,m'.box b=some B→cx.w0.heap.size≤B∧B<w'.heap.size)
 (injo:∀ k k' B,m'.own k=some B→m'.own k'=some B→k=k')
 (injb:∀ b b' B,m'.box b=some B→m'.box b'=some B→b=b')
 (dis:∀ k b B,m'.own k=some B→m'.box b≠some B) (hmp:m'.mp=m.mp:=by rfl)
 (hls:∀ k x,lk lb k=some (.set x)→lk st.lb k=some (.set x):=by first | exact fun _ _ h=>h | (intro k0 x0 h0; simp only [lk] at h0 ⊢; (repeat' split at h0)<;>first | exact h0 | (cases h0; done) | (simp_all; done))):Rel cx ⟨st.sl,bx,lb⟩ m' a w':=
 R.of_move0 he hm hold hrec boxes nobox ods noods deeps ownb boxb injo injb dis (R.sets.keep hmp hls hrec hm.ext.size fun _ _ h=>h.move hm)
theorem Rel.own_some (R:Rel cx st m a w) {k B:Nat} (h:m.own k=some B):∃ x,od (lk st.lb k)=some x∧x.isSl=true∧Row w (Sof cx m) B x:=by
 cases hx:od (lk st.lb k) with
 | some x=>exact ⟨x,rfl,(R.ods k x hx).1,(R.ods k x hx).2 B h⟩
 | none=>
  have:=R.noods k hx
  rw [h] at this; cases this
theorem Rel.box_some (R:Rel cx st m a w) {b B:Nat} (h:m.box b=some B):∃ cs,lk st.bx b=some cs:=by
 cases hx:lk st.bx b with
 | some cs=>exact ⟨cs,rfl⟩
 | none=>have:=R.nobox b hx; rw [h] at this; cases this
theorem Rel.keepsOwn (R:Rel cx st m a w) {k B:Nat} (h:m.own k=some B) (hold:∀ B',B'≠B→w'.heap[B']? =w.heap[B']?):KeepsObj w w':=by
 obtain ⟨x,-,-,c,T,hc,-⟩:=R.own_some h
 exact .one hc hold
theorem Rel.keepsBox (R:Rel cx st m a w) {b B:Nat} (h:m.box b=some B) (hold:∀ B',B'≠B→w'.heap[B']? =w.heap[B']?):KeepsObj w w':=by
 obtain ⟨cs,hcs⟩:=R.box_some h
 obtain ⟨B',c,T,h1,h2,-⟩:=R.boxes b cs hcs
 rw [h] at h1; obtain rfl:=Option.some.inj h1
 exact .one h2 hold
theorem labs_same (hown:∀ k B,m.own k=some B→m'.own k=some B) (hno:∀ k,m.own k=none→(∃ x,od (lk st.lb k)=some x)→m'.own k=none)
 (hsz:∀ k B,m.own k=some B→SizeKept w w' B) (hmp:m'.mp=m.mp:=by rfl):∀ k,LabOk cx m w (lk st.lb) m' w' (lk st.lb) k:=by
 intro k
 simp only [LabOk]
 cases hl:lk st.lb k with
 | none=>trivial
 | some L=>
  cases L with
  | dead=>rfl
  | shared x=>exact .inr rfl
  | owned x=>
   refine .inr (.inl ⟨x,rfl,rfl,rfl,?_,fun B hB=>hsz k B hB⟩)
   cases ho:m.own k with
   | none=>exact hno k ho ⟨x,by rw [hl]; rfl⟩
   | some B=>exact hown k B ho
  | deep x=>
   refine .inr (.inl ⟨x.holed,rfl,rfl,rfl,?_,fun B hB=>hsz k B hB⟩)
   cases ho:m.own k with
   | none=>exact hno k ho ⟨x.holed,by rw [hl]; rfl⟩
   | some B=>exact hown k B ho
  | set x=>exact .inr ⟨x,rfl,by rw [hmp]⟩
theorem Rel.grow (R:Rel cx st m a w) (he:SameEnv w w') (hs:w.heap.size≤w'.heap.size) (h:∀ B,B<w.heap.size→w'.heap[B]? =w.heap[B]?):Rel cx st m a w':=by
 have hm:Move cx m w (lk st.lb) m w' (lk st.lb):=⟨⟨hs,fun B hB _=>h B hB,fun _ _ h=>h⟩,fun _ _ h=>h,
  labs_same (fun _ _ h=>h) (fun _ h _=>h) (fun k B hB=> .of_eq (h B (R.ownb k B hB).2))⟩
 refine R.of_move he hm (fun B hB=>h B (Nat.lt_of_lt_of_le hB R.size)) (.grow h) (fun b cs hb=> ?_) R.nobox (fun k x hk=>⟨(R.ods k x hk).1,fun B hB=> ?_⟩) R.noods (R.deeps.keep rfl (fun _ _=>Iff.rfl) (fun _ _ _=>rfl) hm.ext (fun k _ B _ hB=>h B (R.ownb k B hB).2) (fun k j B hB=>h B (R.deeps.blk k j B hB).2) (fun k B hB=> .inl ⟨k,hB⟩) (fun b B hB=> .inl ⟨b,hB⟩))
  (fun k B hB=>⟨(R.ownb k B hB).1,Nat.lt_of_lt_of_le (R.ownb k B hB).2 hs⟩) (fun k B hB=>⟨(R.boxb k B hB).1,Nat.lt_of_lt_of_le (R.boxb k B hB).2 hs⟩) R.injo R.injb R.dis
 ·obtain ⟨B,c,T,h1,h2,h3,h4⟩:=R.boxes b cs hb
  refine ⟨B,c,T,h1,by rw [h B (R.boxb b B h1).2]; exact h2,h3,fun j hj=> ?_⟩
  obtain ⟨u,hu,hr⟩:=h4 j hj
  exact ⟨u,hu,hr.move hm⟩
 ·exact ((R.ods k x hk).2 B hB).ext hm.ext (h B (R.ownb k B hB).2)
theorem Rel.drawn (R:Rel cx st m a w) (n:Nat):Rel cx st m a { w with drawn:=n } :=R.grow (.refl _) (Nat.le_refl _) (fun _ _=>rfl)
theorem Rel.newBox (R:Rel cx st m a w) {b:Nat} (hb:lk st.bx b=none) {cs:List AC} {c:Array Value} {T:TypeId} (hsz:c.size=cs.length)
 (hcs:∀ j,j<cs.length→∃ u,c[j]? =some u∧RCl cx m w (lk st.lb) (cs.getD j .undef) u) :
 Rel cx ⟨st.sl,(b,cs)::st.bx,st.lb⟩ ⟨m.own,upd m.box b (some w.heap.size),m.inn,m.mp⟩ a { w with heap:=w.heap.push (.cells c T (0,0)) } :=by
 have hnb:=R.nobox b hb
 have hsame:∀ B,B<w.heap.size→(w.heap.push (.cells c T (0,0)))[B]? =w.heap[B]? :=fun B hB=>by
  rw [Array.getElem?_push,if_neg (by omega)]
 have hm:Move cx m w (lk st.lb) ⟨m.own,upd m.box b (some w.heap.size),m.inn,m.mp⟩ { w with heap:=w.heap.push (.cells c T (0,0)) } (lk st.lb):=by
  refine ⟨⟨by simp,fun B hB _=>hsame B hB,fun B hB hS=>⟨hS.1,hS.2.1,fun b' hb'=> ?_,hS.2.2.2⟩⟩,fun b' B h=> ?_,labs_same (fun _ _ h=>h) (fun _ h _=>h) (fun k B hB=> .of_eq (hsame B (R.ownb k B hB).2))⟩
  ·simp only [upd] at hb'
   split at hb'
   ·simp at hb'; omega
   ·exact hS.2.2.1 b' hb'
  ·have:b'≠b:=by rintro rfl; rw [hnb] at h; cases h
   simp only [upd_other this]; exact h
 have hbx:∀ b' B,upd m.box b (some w.heap.size) b'=some B→(b'=b∧B=w.heap.size)∨(b'≠b∧m.box b'=some B):=by
  intro b' B h
  simp only [upd] at h
  split at h
  ·exact .inl ⟨by assumption,by simpa using h.symm⟩
  ·exact .inr ⟨by assumption,h⟩
 refine R.of_move ⟨rfl,rfl,rfl⟩ hm (fun B hB=>hsame B (Nat.lt_of_lt_of_le hB R.size)) (.grow hsame) (fun b' cs' hl=> ?_) (fun b' hl=> ?_) (fun k x hk=>⟨(R.ods k x hk).1,fun B hB=> ?_⟩) R.noods (R.deeps.keep rfl (fun _ _=>Iff.rfl) (fun _ _ _=>rfl) hm.ext (fun k _ B _ hB=>hsame B (R.ownb k B hB).2) (fun k j B hB=>hsame B (R.deeps.blk k j B hB).2) (fun k B hB=> .inl ⟨k,hB⟩) (fun b B hB=>by
  rcases hbx b B hB with ⟨_,e⟩ | ⟨_,h⟩
  ·exact .inr (by omega)
  ·exact .inl ⟨_,h⟩)) ?_ ?_ R.injo ?_ ?_
 ·by_cases h:b'=b
  ·subst h
   rw [lk_same] at hl
   obtain rfl:=Option.some.inj hl
   refine ⟨w.heap.size,c,T,upd_same _ _ _,by simp,hsz,fun j hj=> ?_⟩
   obtain ⟨u,hu,hr⟩:=hcs j hj
   exact ⟨u,hu,hr.move hm⟩
  ·rw [lk_other h] at hl
   obtain ⟨B,c',T',h1,h2,h3,h4⟩:=R.boxes b' cs' hl
   refine ⟨B,c',T',by simp only [upd_other h]; exact h1,by rw [hsame B (R.boxb b' B h1).2]; exact h2,h3,fun j hj=> ?_⟩
   obtain ⟨u,hu,hr⟩:=h4 j hj
   exact ⟨u,hu,hr.move hm⟩
 ·by_cases h:b'=b
  ·subst h; rw [lk_same] at hl; cases hl
  ·rw [lk_other h] at hl; simp only [upd_other h]; exact R.nobox b' hl
 ·exact ((R.ods k x hk).2 B hB).ext hm.ext (hsame B (R.ownb k B hB).2)
 ·intro k B hB
  have:=R.ownb k B hB
  exact ⟨this.1,by simp; omega⟩
 ·intro b' B hB
  rcases hbx b' B hB with ⟨_,rfl⟩ | ⟨_,h⟩
  ·exact ⟨R.size,by simp⟩
  ·have:=R.boxb b' B h
   exact ⟨this.1,by simp; omega⟩
 ·intro b1 b2 B h1 h2
  rcases hbx b1 B h1 with ⟨rfl,rfl⟩ | ⟨n1,h1⟩<;>rcases hbx b2 _ h2 with ⟨e,e2⟩ | ⟨n2,h2⟩
  ·exact e.symm
  ·have:=R.boxb b2 _ h2; omega
  ·subst e2; have:=R.boxb b1 _ h1; omega
  ·exact R.injb _ _ _ h1 h2
 ·intro k b' B h1 h2
  rcases hbx b' B h2 with ⟨_,rfl⟩ | ⟨_,h⟩
  ·have:=R.ownb k _ h1; omega
  ·exact R.dis k b' B h1 h
theorem Rel.newLab (R:Rel cx st m a w) {k:Nat} (hk:lk st.lb k=none) {x:D} (hs:w.heap.size≤w'.heap.size)
 (hold:∀ B,B<w.heap.size→w'.heap[B]? =w.heap[B]?) {B:Nat} (hB:w.heap.size≤B) (hB':B<w'.heap.size) (hx:x.isSl=true) (he:SameEnv w w')
 (hrow:Row w' (fun B'=>Sof cx m B'∧B'≠B) B x) :
 Rel cx ⟨st.sl,st.bx,(k,.owned x)::st.lb⟩ ⟨upd m.own k (some B),m.box,m.inn,m.mp⟩ a w':=by
 have hno:m.own k=none:=R.noown k hk
 have hsub:∀ B',Sof cx m B'→B'≠B→Sof cx ⟨upd m.own k (some B),m.box,m.inn,m.mp⟩ B':=fun B' h hne=>⟨h.1,fun k' hk'=>by
  simp only [upd] at hk'
  split at hk'
  ·simp at hk'; exact hne hk'.symm
  ·exact h.2.1 k' hk',h.2.2⟩
 have hne:∀ k' B',m.own k'=some B'→k'≠k:=fun k' B' h e=>by subst e; rw [hno] at h; cases h
 have hlk:∀ k',k'≠k→lk ((k,Lab.owned x)::st.lb) k'=lk st.lb k':=fun k' h=>lk_other h
 have hm:Move cx m w (lk st.lb) ⟨upd m.own k (some B),m.box,m.inn,m.mp⟩ w' (lk ((k,.owned x)::st.lb)):=by
  refine ⟨⟨hs,fun B hB _=>hold B hB,fun B' hB' hS=>hsub B' hS (by omega)⟩,fun _ _ h=>h,fun k'=> ?_⟩
  by_cases e:k'=k
  ·subst e; simp [LabOk,hk]
  ·have:=labs_same (cx:=cx) (st:=st) (m:=m) (m':=⟨upd m.own k (some B),m.box,m.inn,m.mp⟩) (w:=w) (w':=w') (fun k B' h=>by simp only [upd_other (hne _ _ h)]; exact h)
    (fun k' h ⟨y,hy⟩=>by
     have:k'≠k:=by rintro rfl; rw [hk] at hy; cases hy
     simp only [upd_other this]; exact h) (fun k B hB=> .of_eq (hold B (R.ownb k B hB).2)) rfl k'
   simpa only [LabOk,hlk k' e] using this
 have hown:∀ k' B',upd m.own k (some B) k'=some B'→(k'=k∧B'=B)∨(k'≠k∧m.own k'=some B'):=by
  intro k' B' h
  simp only [upd] at h
  split at h
  ·exact .inl ⟨by assumption,by simpa using h.symm⟩
  ·exact .inr ⟨by assumption,h⟩
 refine R.of_move he hm (fun B hB=>hold B (Nat.lt_of_lt_of_le hB R.size)) (.grow hold) (fun b cs hb=> ?_) R.nobox (fun k' y hy=> ?_) (fun k' hk'=> ?_) (R.deeps.keep rfl (fun k0 x0=>by
  by_cases e0:k0=k
  ·subst e0; rw [lk_same,hk]; exact ⟨fun h=>(by cases h),fun h=>(by cases h)⟩
  ·rw [lk_other e0]) (fun k0 x0 h0=>upd_other (by rintro rfl; rw [hk] at h0; cases h0)) hm.ext (fun k0 _ B hl hB=>hold B (R.ownb k0 B hB).2) (fun k0 j0 B hB=>hold B (R.deeps.blk k0 j0 B hB).2) (fun k0 B hB=>by
  rcases hown k0 B hB with ⟨_,e⟩ | ⟨_,h⟩
  ·exact .inr (by omega)
  ·exact .inl ⟨_,h⟩) (fun b B hB=> .inl ⟨b,hB⟩)) ?_
  (fun b B hb=>⟨(R.boxb b B hb).1,Nat.lt_of_lt_of_le (R.boxb b B hb).2 hs⟩) ?_ R.injb ?_
 ·obtain ⟨B,c,T,h1,h2,h3,h4⟩:=R.boxes b cs hb
  refine ⟨B,c,T,h1,by rw [hold B (R.boxb b B h1).2]; exact h2,h3,fun j hj=> ?_⟩
  obtain ⟨u,hu,hr⟩:=h4 j hj
  exact ⟨u,hu,hr.move hm⟩
 ·by_cases e:k'=k
  ·subst e
   rw [lk_same] at hy
   obtain ⟨⟩:=Option.some.inj hy
   refine ⟨hx,fun B' h=> ?_⟩
   simp only [upd_same] at h
   obtain rfl:=Option.some.inj h
   exact Row.ext ⟨Nat.le_refl _,fun _ _ _=>rfl,fun B' _ h=>hsub B' h.1 h.2⟩ rfl hrow
  ·rw [lk_other e] at hy
   refine ⟨(R.ods k' y hy).1,fun B' h=> ?_⟩
   simp only [upd_other e] at h
   exact ((R.ods k' y hy).2 B' h).ext hm.ext (hold B' (R.ownb k' B' h).2)
 ·have e:k'≠k:=by rintro rfl; rw [lk_same] at hk'; cases hk'
  simp only [upd_other e]
  exact R.noods k' (by rw [lk_other e] at hk'; exact hk')
 ·intro k' B' h
  rcases hown k' B' h with ⟨_,rfl⟩ | ⟨_,h⟩
  ·exact ⟨Nat.le_trans R.size hB,hB'⟩
  ·exact ⟨(R.ownb k' B' h).1,Nat.lt_of_lt_of_le (R.ownb k' B' h).2 hs⟩
 ·intro k1 k2 B' h1 h2
  rcases hown k1 B' h1 with ⟨rfl,rfl⟩ | ⟨n1,g1⟩<;>rcases hown k2 _ h2 with ⟨e,e2⟩ | ⟨n2,h2⟩
  ·exact e.symm
  ·have:=R.ownb k2 _ h2; omega
  ·subst e2; have:=R.ownb k1 _ g1; omega
  ·exact R.injo _ _ _ g1 h2
 ·intro k' b B' h1 h2
  rcases hown k' B' h1 with ⟨_,rfl⟩ | ⟨_,h⟩
  ·have:=R.boxb b _ h2; omega
  ·exact R.dis k' b B' h h2
theorem Rel.newNil (R:Rel cx st m a w) {k:Nat} (hk:lk st.lb k=none) {x:D} (hx:x.isSl=true) :
 Rel cx ⟨st.sl,st.bx,(k,.owned x)::st.lb⟩ m a w:=by
 have hno:m.own k=none:=R.noown k hk
 have hm:Move cx m w (lk st.lb) m w (lk ((k,.owned x)::st.lb)):=by
  refine ⟨⟨Nat.le_refl _,fun _ _ _=>rfl,fun _ _ h=>h⟩,fun _ _ h=>h,fun k'=> ?_⟩
  by_cases e:k'=k
  ·subst e; simp [LabOk,hk]
  ·have:=labs_same (cx:=cx) (st:=st) (m:=m) (m':=m) (w:=w) (w':=w) (fun _ _ h=>h) (fun _ h _=>h) (fun k B _=> .of_eq rfl) rfl k'
   simpa only [LabOk,lk_other e] using this
 refine R.of_move (.refl _) hm (fun _ _=>rfl) (.refl _) (fun b cs hb=> ?_) R.nobox (fun k' y hy=> ?_) (fun k' hk'=> ?_) (R.deeps.keep rfl (fun k0 x0=>by
  by_cases e0:k0=k
  ·subst e0; rw [lk_same,hk]; exact ⟨fun h=>(by cases h),fun h=>(by cases h)⟩
  ·rw [lk_other e0]) (fun _ _ _=>rfl) hm.ext (fun _ _ _ _ _=>rfl) (fun _ _ _ _=>rfl) (fun k B hB=> .inl ⟨k,hB⟩) (fun b B hB=> .inl ⟨b,hB⟩)) R.ownb R.boxb R.injo R.injb R.dis
 ·obtain ⟨B,c,T,h1,h2,h3,h4⟩:=R.boxes b cs hb
  refine ⟨B,c,T,h1,h2,h3,fun j hj=> ?_⟩
  obtain ⟨u,hu,hr⟩:=h4 j hj
  exact ⟨u,hu,hr.move hm⟩
 ·by_cases e:k'=k
  ·subst e
   rw [lk_same] at hy
   obtain ⟨⟩:=Option.some.inj hy
   exact ⟨hx,fun B h=>by rw [hno] at h; cases h⟩
  ·rw [lk_other e] at hy; exact R.ods k' y hy
 ·have e:k'≠k:=by rintro rfl; rw [lk_same] at hk'; cases hk'
  exact R.noods k' (by rw [lk_other e] at hk'; exact hk')
theorem Rel.share (R:Rel cx st m a w) {k:Nat} {x:D} (hk:lk st.lb k=some (.owned x)) :
 Rel cx ⟨st.sl,st.bx,(k,.shared x)::st.lb⟩ ⟨upd m.own k none,m.box,m.inn,m.mp⟩ a w:=by
 have hle:∀ k' B,upd m.own k none k'=some B→k'≠k∧m.own k'=some B:=by
  intro k' B h
  simp only [upd] at h
  split at h
  ·cases h
  ·exact ⟨by assumption,h⟩
 have hsub:∀ B',Sof cx m B'→Sof cx ⟨upd m.own k none,m.box,m.inn,m.mp⟩ B':=fun B' h=>⟨h.1,fun k' hk'=>h.2.1 k' (hle _ _ hk').2,h.2.2⟩
 have hm:Move cx m w (lk st.lb) ⟨upd m.own k none,m.box,m.inn,m.mp⟩ w (lk ((k,.shared x)::st.lb)):=by
  refine ⟨⟨Nat.le_refl _,fun _ _ _=>rfl,fun B' _ h=>hsub B' h⟩,fun _ _ h=>h,fun k'=> ?_⟩
  by_cases e:k'=k
  ·subst e
   simp only [LabOk,hk,lk_same]
   refine .inr (.inr ⟨(by first | rfl | trivial),(R.owned _ x hk).1,fun B hB=>⟨((R.owned _ x hk).2 B hB).ext ⟨Nat.le_refl _,fun _ _ _=>rfl,fun B' _ h=>hsub B' h⟩ rfl,?_,(R.ownb _ B hB).2⟩⟩)
   exact ⟨.inr (R.ownb _ B hB).1,fun k' h=>(hle k' B h).1 (R.injo _ _ _ (hle k' B h).2 hB),fun b=>R.dis _ b B hB,fun k2 j2 h2=>R.deeps.own k2 j2 _ B h2 hB⟩
  ·have:=labs_same (cx:=cx) (st:=st) (m:=m) (m':=m) (w:=w) (w':=w) (fun _ _ h=>h) (fun _ h _=>h) (fun k B _=> .of_eq rfl) rfl k'
   simp only [LabOk,lk_other e,upd_other e] at this ⊢
   cases hl:lk st.lb k' with
   | none=>trivial
   | some L=>
    simp only [hl] at this ⊢
    cases L with
    | owned y=>
     refine .inr (.inl ⟨y,(by first | rfl | trivial),(by first | rfl | trivial),(by first | rfl | trivial),(by first | rfl | trivial),fun B _=> .of_eq rfl⟩)
    | deep y=>
     refine .inr (.inl ⟨y.holed,(by first | rfl | trivial),(by first | rfl | trivial),(by first | rfl | trivial),(by first | rfl | trivial),fun B _=> .of_eq rfl⟩)
    | shared y=>simp
    | dead=>rfl
    | set y=>exact .inr ⟨y,(by first | rfl | trivial),(by first | rfl | trivial)⟩
 refine R.of_move (.refl _) hm (fun _ _=>rfl) (.refl _) (fun b cs hb=> ?_) R.nobox (fun k' y hy=> ?_) (fun k' hk'=> ?_) (R.deeps.keep rfl (fun k0 x0=>by
  by_cases e0:k0=k
  ·subst e0; rw [lk_same,hk]; exact ⟨fun h=>(by cases h),fun h=>(by cases h)⟩
  ·rw [lk_other e0]) (fun k0 x0 h0=>upd_other (by rintro rfl; rw [hk] at h0; cases h0)) hm.ext (fun _ _ _ _ _=>rfl) (fun _ _ _ _=>rfl) (fun k0 B hB=> .inl ⟨_,(hle _ _ hB).2⟩) (fun b B hB=> .inl ⟨b,hB⟩)) (fun k' B h=>R.ownb k' B (hle _ _ h).2) R.boxb
  (fun k1 k2 B h1 h2=>R.injo _ _ B (hle _ _ h1).2 (hle _ _ h2).2) R.injb (fun k' b B h=>R.dis k' b B (hle _ _ h).2)
 ·obtain ⟨B,c,T,h1,h2,h3,h4⟩:=R.boxes b cs hb
  refine ⟨B,c,T,h1,h2,h3,fun j hj=> ?_⟩
  obtain ⟨u,hu,hr⟩:=h4 j hj
  exact ⟨u,hu,hr.move hm⟩
 ·have e:k'≠k:=by rintro rfl; rw [lk_same] at hy; cases hy
  rw [lk_other e] at hy
  refine ⟨(R.ods k' y hy).1,fun B h=> ?_⟩
  exact ((R.ods k' y hy).2 B (hle _ _ h).2).ext hm.ext rfl
 ·by_cases e:k'=k
  ·subst e; simp [upd_same]
  ·simp only [upd_other e]
   exact R.noods k' (by rw [lk_other e] at hk'; exact hk')
theorem Rel.turnOwn (R:Rel cx st m a w) {k B:Nat} (hB:m.own k=some B) {x x':D} (hk:lk st.lb k=some (.owned x)) (hx':x'.isSl=true)
 (hl:x'.len=x.len) (hst:x'.stride=x.stride)
 (he:SameEnv w w') (hsz:w'.heap.size=w.heap.size) (hold:∀ B',B'≠B→w'.heap[B']? =w.heap[B']?) (hkept:SizeKept w w' B)
 (hrow:Row w' (Sof cx m) B x'):Rel cx ⟨st.sl,st.bx,(k,.owned x')::st.lb⟩ m a w':=by
 have hS:∀ B',Sof cx m B'→B'≠B:=fun B' h e=>by subst e; exact h.2.1 k hB
 have hne:∀ k' B',m.own k'=some B'→k'≠k→B'≠B:=fun k' B' h e e2=>by subst e2; exact e (R.injo _ _ _ h hB)
 have hm:Move cx m w (lk st.lb) m w' (lk ((k,.owned x')::st.lb)):=by
  refine ⟨⟨by omega,fun B' _ h=>hold B' (hS B' h),fun _ _ h=>h⟩,fun _ _ h=>h,fun k'=> ?_⟩
  by_cases e:k'=k
  ·subst e
   simp only [LabOk,hk,lk_same]
   exact .inr (.inl ⟨x',(by first | rfl | trivial),hl,hst,(by first | rfl | trivial),fun B' h=>by rw [hB] at h; obtain rfl:=Option.some.inj h; exact hkept⟩)
  ·have:=labs_same (cx:=cx) (st:=st) (m:=m) (m':=m) (w:=w) (w':=w) (fun _ _ h=>h) (fun _ h _=>h) (fun k B _=> .of_eq rfl) rfl k'
   simp only [LabOk,lk_other e] at this ⊢
   cases hl:lk st.lb k' with
   | none=>trivial
   | some L=>
    simp only [hl] at this ⊢
    cases L with
    | owned y=>exact .inr (.inl ⟨y,(by first | rfl | trivial),(by first | rfl | trivial),(by first | rfl | trivial),(by first | rfl | trivial),fun B' h=> .of_eq (hold B' (hne k' B' h e))⟩)
    | deep y=>exact .inr (.inl ⟨y.holed,(by first | rfl | trivial),(by first | rfl | trivial),(by first | rfl | trivial),(by first | rfl | trivial),fun B' h=> .of_eq (hold B' (hne k' B' h e))⟩)
    | shared y=>simp
    | dead=>rfl
    | set y=>exact .inr ⟨y,(by first | rfl | trivial),(by first | rfl | trivial)⟩
 have hb0:cx.w0.heap.size≤B:=(R.ownb _ B hB).1
 refine R.of_move he hm (fun B' h=>hold B' (by omega)) (R.keepsOwn hB hold) (fun b cs hb=> ?_) R.nobox (fun k' y hy=> ?_) (fun k' hk'=> ?_) (R.deeps.keep rfl (fun k0 x0=>by
  by_cases e0:k0=k
  ·subst e0; rw [lk_same,hk]; exact ⟨fun h=>(by cases h),fun h=>(by cases h)⟩
  ·rw [lk_other e0]) (fun _ _ _=>rfl) hm.ext (fun k0 _ B' h0 hB'=>hold B' (hne k0 B' hB' (by rintro rfl; rw [hk] at h0; cases h0))) (fun k0 j0 B' hB'=>hold B' (by rintro rfl; exact R.deeps.own k0 j0 k _ hB' hB)) (fun k B hB=> .inl ⟨k,hB⟩) (fun b B hB=> .inl ⟨b,hB⟩)) (fun k' B' h=>by rw [hsz]; exact R.ownb k' B' h) (fun b B' h=>by rw [hsz]; exact R.boxb b B' h) R.injo R.injb R.dis
 ·obtain ⟨B',c,T,h1,h2,h3,h4⟩:=R.boxes b cs hb
  refine ⟨B',c,T,h1,by rw [hold B' (fun e=>R.dis k b B' (e▸hB) h1)]; exact h2,h3,fun j hj=> ?_⟩
  obtain ⟨u,hu,hr⟩:=h4 j hj
  exact ⟨u,hu,hr.move hm⟩
 ·by_cases e:k'=k
  ·subst e
   rw [lk_same] at hy
   obtain ⟨⟩:=Option.some.inj hy
   exact ⟨hx',fun B' h=>by rw [hB] at h; obtain rfl:=Option.some.inj h; exact hrow⟩
  ·rw [lk_other e] at hy
   exact ⟨(R.ods k' y hy).1,fun B' h=>((R.ods k' y hy).2 B' h).ext hm.ext (hold B' (hne _ _ h e))⟩
 ·have e:k'≠k:=by rintro rfl; rw [lk_same] at hk'; cases hk'
  exact R.noods k' (by rw [lk_other e] at hk'; exact hk')
theorem Rel.turnBox (R:Rel cx st m a w) {b B:Nat} (hB:m.box b=some B) {cs':List AC} {c':Array Value} {T:TypeId}
 (he:SameEnv w w') (hsz:w'.heap.size=w.heap.size) (hold:∀ B',B'≠B→w'.heap[B']? =w.heap[B']?) (hc':w'.heap[B]? =some (.cells c' T (0,0)))
 (hlen:c'.size=cs'.length) (hcs:∀ j,j<cs'.length→∃ u,c'[j]? =some u∧RCl cx m w (lk st.lb) (cs'.getD j .undef) u) :
 Rel cx ⟨st.sl,(b,cs')::st.bx,st.lb⟩ m a w':=by
 have hS:∀ B',Sof cx m B'→B'≠B:=fun B' h e=>by subst e; exact h.2.2.1 b hB
 have hno:∀ k B',m.own k=some B'→B'≠B:=fun k B' h e=>by subst e; exact R.dis k b _ h hB
 have hm:Move cx m w (lk st.lb) m w' (lk st.lb):=
  ⟨⟨by omega,fun B' _ h=>hold B' (hS B' h),fun _ _ h=>h⟩,fun _ _ h=>h,labs_same (fun _ _ h=>h) (fun _ h _=>h) (fun k B' h=> .of_eq (hold B' (hno k B' h)))⟩
 have hb0:cx.w0.heap.size≤B:=(R.boxb _ B hB).1
 refine R.of_move he hm (fun B' h=>hold B' (by omega)) (R.keepsBox hB hold) (fun b' cs hb=> ?_) (fun b' hb=> ?_) (fun k y hy=>⟨(R.ods k y hy).1,fun B' h=>((R.ods k y hy).2 B' h).ext hm.ext (hold B' (hno k B' h))⟩) R.noods (R.deeps.keep rfl (fun _ _=>Iff.rfl) (fun _ _ _=>rfl) hm.ext (fun k0 _ B' h0 hB'=>hold B' (hno k0 B' hB')) (fun k0 j0 B' hB'=>hold B' (by rintro rfl; exact R.deeps.box k0 j0 b _ hB' hB)) (fun k B hB=> .inl ⟨k,hB⟩) (fun b B hB=> .inl ⟨b,hB⟩))
  (fun k' B' h=>by rw [hsz]; exact R.ownb k' B' h) (fun b B' h=>by rw [hsz]; exact R.boxb b B' h) R.injo R.injb R.dis
 ·by_cases e:b'=b
  ·subst e
   rw [lk_same] at hb
   obtain rfl:=Option.some.inj hb
   refine ⟨B,c',T,hB,hc',hlen,fun j hj=> ?_⟩
   obtain ⟨u,hu,hr⟩:=hcs j hj
   exact ⟨u,hu,hr.move hm⟩
  ·rw [lk_other e] at hb
   obtain ⟨B',c,T,h1,h2,h3,h4⟩:=R.boxes b' cs hb
   refine ⟨B',c,T,h1,by rw [hold B' (fun e2=>e (R.injb _ _ _ h1 (e2▸hB)))]; exact h2,h3,fun j hj=> ?_⟩
   obtain ⟨u,hu,hr⟩:=h4 j hj
   exact ⟨u,hu,hr.move hm⟩
 ·by_cases e:b'=b
  ·subst e; rw [lk_same] at hb; cases hb
  ·rw [lk_other e] at hb; exact R.nobox b' hb
theorem Rel.passOwn (R:Rel cx st m a w) {k k' B:Nat} (hB:m.own k=some B) {x x':D} (hk:lk st.lb k=some (.owned x)) (hk':lk st.lb k'=none) (hx':x'.isSl=true)
 (he:SameEnv w w') (hsz:w'.heap.size=w.heap.size) (hold:∀ B',B'≠B→w'.heap[B']? =w.heap[B']?)
 (hrow:Row w' (Sof cx m) B x'):Rel cx ⟨st.sl,st.bx,(k',.owned x')::(k,.dead)::st.lb⟩ ⟨upd (upd m.own k none) k' (some B),m.box,m.inn,m.mp⟩ a w':=by
 have hkk:k≠k':=by rintro rfl; rw [hk] at hk'; cases hk'
 have hS:∀ B',Sof cx m B'→B'≠B:=fun B' h e=>by subst e; exact h.2.1 k hB
 have hown:∀ i B',upd (upd m.own k none) k' (some B) i=some B'→(i=k'∧B'=B)∨(i≠k'∧i≠k∧m.own i=some B'):=by
  intro i B' h
  simp only [upd] at h
  split at h
  ·exact .inl ⟨by assumption,by simpa using h.symm⟩
  ·split at h
   ·cases h
   ·exact .inr ⟨by assumption,by assumption,h⟩
 have hback:∀ i B',m.own i=some B'→∃ j,upd (upd m.own k none) k' (some B) j=some B':=by
  intro i B' h
  by_cases e:i=k
  ·subst e; rw [hB] at h; obtain rfl:=Option.some.inj h; exact ⟨k',upd_same _ _ _⟩
  ·have e2:i≠k':=by
    rintro rfl
    have:=R.noown i hk'
    rw [h] at this; cases this
   exact ⟨i,by rw [upd_other e2,upd_other e]; exact h⟩
 have hSS:∀ B',Sof cx m B'→Sof cx ⟨upd (upd m.own k none) k' (some B),m.box,m.inn,m.mp⟩ B':=fun B' h=>⟨h.1,fun i hi=>by
  rcases hown i B' hi with ⟨_,rfl⟩ | ⟨_,_,hi⟩
  ·exact hS _ h rfl
  ·exact h.2.1 i hi,h.2.2⟩
 have hne:∀ i B',m.own i=some B'→i≠k→B'≠B:=fun i B' h e e2=>by subst e2; exact e (R.injo _ _ _ h hB)
 have hm:Move cx m w (lk st.lb) ⟨upd (upd m.own k none) k' (some B),m.box,m.inn,m.mp⟩ w' (lk ((k',.owned x')::(k,.dead)::st.lb)):=by
  refine ⟨⟨by omega,fun B' _ h=>hold B' (hS B' h),fun B' _ h=>hSS B' h⟩,fun _ _ h=>h,fun i=> ?_⟩
  by_cases e:i=k'
  ·subst e; simp [LabOk,hk']
  ·by_cases e2:i=k
   ·subst e2; simp only [LabOk,hk,lk_other e,lk_same]; exact .inl trivial
   ·simp only [LabOk,lk_other e,lk_other e2]
    cases hl:lk st.lb i with
    | none=>trivial
    | some L=>
     cases L with
     | owned y=>exact .inr (.inl ⟨y,(by first | rfl | trivial),(by first | rfl | trivial),(by first | rfl | trivial),by simp only [upd_other e,upd_other e2],fun B' h=> .of_eq (hold B' (hne i B' h e2))⟩)
     | deep y=>exact .inr (.inl ⟨y.holed,(by first | rfl | trivial),(by first | rfl | trivial),(by first | rfl | trivial),by simp only [upd_other e,upd_other e2],fun B' h=> .of_eq (hold B' (hne i B' h e2))⟩)
     | shared y=>simp
     | dead=>rfl
     | set y=>exact .inr ⟨y,(by first | rfl | trivial),(by first | rfl | trivial)⟩
 have hb0:cx.w0.heap.size≤B:=(R.ownb _ B hB).1
 refine R.of_move he hm (fun B' h=>hold B' (by omega)) (R.keepsOwn hB hold) (fun b cs hb=> ?_) R.nobox (fun i y hy=> ?_) (fun i hi=> ?_) (R.deeps.keep rfl (fun k0 x0=>by
  by_cases e0:k0=k'
  ·subst e0; rw [lk_same,hk']; exact ⟨fun h=>(by cases h),fun h=>(by cases h)⟩
  ·rw [lk_other e0]
   by_cases e1:k0=k
   ·subst e1; rw [lk_same,hk]; exact ⟨fun h=>(by cases h),fun h=>(by cases h)⟩
   ·rw [lk_other e1]) (fun k0 x0 h0=>by
  have e0:k0≠k':=by rintro rfl; rw [hk'] at h0; cases h0
  have e1:k0≠k:=by rintro rfl; rw [hk] at h0; cases h0
  simp only [upd_other e0,upd_other e1]) hm.ext (fun k0 _ B' h0 hB'=>hold B' (hne k0 B' hB' (by rintro rfl; rw [hk] at h0; cases h0))) (fun k0 j0 B' hB'=>hold B' (by rintro rfl; exact R.deeps.own k0 j0 k _ hB' hB)) (fun k0 B' h=>by
  rcases hown k0 B' h with ⟨_,rfl⟩ | ⟨_,_,h⟩
  ·exact .inl ⟨k,hB⟩
  ·exact .inl ⟨_,h⟩) (fun b B hB=> .inl ⟨b,hB⟩)) ?_ (fun b B' h=>by rw [hsz]; exact R.boxb b B' h) ?_ R.injb ?_
 ·obtain ⟨B',c,T,h1,h2,h3,h4⟩:=R.boxes b cs hb
  refine ⟨B',c,T,h1,by rw [hold B' (fun e=>R.dis k b B' (e▸hB) h1)]; exact h2,h3,fun j hj=> ?_⟩
  obtain ⟨u,hu,hr⟩:=h4 j hj
  exact ⟨u,hu,hr.move hm⟩
 ·by_cases e:i=k'
  ·subst e
   rw [lk_same] at hy
   obtain ⟨⟩:=Option.some.inj hy
   refine ⟨hx',fun B' h=> ?_⟩
   simp only [upd_same] at h
   obtain rfl:=Option.some.inj h
   exact Row.ext ⟨Nat.le_refl _,fun _ _ _=>rfl,fun B' _ h=>hSS B' h⟩ rfl hrow
  ·rw [lk_other e] at hy
   by_cases e2:i=k
   ·subst e2; rw [lk_same] at hy; cases hy
   ·rw [lk_other e2] at hy
    refine ⟨(R.ods i y hy).1,fun B' h=> ?_⟩
    simp only [upd_other e,upd_other e2] at h
    exact ((R.ods i y hy).2 B' h).ext hm.ext (hold B' (hne _ _ h e2))
 ·have e:i≠k':=by rintro rfl; rw [lk_same] at hi; cases hi
  by_cases e2:i=k
  ·subst e2; simp only [upd_other e,upd_same]
  ·simp only [upd_other e,upd_other e2]
   exact R.noods i (by rw [lk_other e,lk_other e2] at hi; exact hi)
 ·intro i B' h
  rcases hown i B' h with ⟨_,rfl⟩ | ⟨_,_,h⟩
  ·rw [hsz]; exact R.ownb k _ hB
  ·rw [hsz]; exact R.ownb i B' h
 ·intro i j B' h1 h2
  rcases hown i B' h1 with ⟨rfl,rfl⟩ | ⟨n1,n2,g1⟩<;>rcases hown j _ h2 with ⟨e,e2⟩ | ⟨n3,n4,h2⟩
  ·exact e.symm
  ·exact absurd (R.injo _ _ _ h2 hB) n4
  ·subst e2; exact absurd (R.injo _ _ _ g1 hB) n2
  ·exact R.injo _ _ _ g1 h2
 ·intro i b B' h1 h2
  rcases hown i B' h1 with ⟨_,rfl⟩ | ⟨_,_,h⟩
  ·exact R.dis k b _ hB h2
  ·exact R.dis i b B' h h2
theorem Rel.kill (R:Rel cx st m a w) {k:Nat} {x:D} (hk:lk st.lb k=some (.owned x)) :
 Rel cx ⟨st.sl,st.bx,(k,.dead)::st.lb⟩ ⟨upd m.own k none,m.box,m.inn,m.mp⟩ a w:=by
 have R2:=R.share hk
 have hm:Move cx ⟨upd m.own k none,m.box,m.inn,m.mp⟩ w (lk ((k,.shared x)::st.lb)) ⟨upd m.own k none,m.box,m.inn,m.mp⟩ w (lk ((k,.dead)::st.lb)):=by
  refine ⟨⟨Nat.le_refl _,fun _ _ _=>rfl,fun _ _ h=>h⟩,fun _ _ h=>h,fun k'=> ?_⟩
  by_cases e:k'=k
  ·subst e; simp [LabOk,lk_same]
  ·simp only [LabOk,lk_other e]
   cases hl:lk st.lb k' with
   | none=>trivial
   | some L=>
    cases L with
    | owned y=>exact .inr (.inl ⟨y,(by first | rfl | trivial),(by first | rfl | trivial),(by first | rfl | trivial),(by first | rfl | trivial),fun B _=> .of_eq rfl⟩)
    | deep y=>exact .inr (.inl ⟨y.holed,(by first | rfl | trivial),(by first | rfl | trivial),(by first | rfl | trivial),(by first | rfl | trivial),fun B _=> .of_eq rfl⟩)
    | shared y=>simp
    | dead=>rfl
    | set y=>exact .inr ⟨y,(by first | rfl | trivial),(by first | rfl | trivial)⟩
 refine R2.of_move (bx:=st.bx) (lb:=(k,.dead)::st.lb) (.refl _) hm (fun _ _=>rfl) (.refl _) (fun b cs hb=> ?_) R2.nobox (fun k' y hy=> ?_) (fun k' hk'=> ?_) (R2.deeps.keep rfl (fun k0 x0=>by
  by_cases e0:k0=k
  ·subst e0; rw [lk_same,lk_same]; exact ⟨fun h=>(by cases h),fun h=>(by cases h)⟩
  ·rw [lk_other e0,lk_other e0]) (fun _ _ _=>rfl) hm.ext (fun _ _ _ _ _=>rfl) (fun _ _ _ _=>rfl) (fun k B hB=> .inl ⟨k,hB⟩) (fun b B hB=> .inl ⟨b,hB⟩)) R2.ownb R2.boxb R2.injo R2.injb R2.dis
 ·obtain ⟨B,c,T,h1,h2,h3,h4⟩:=R2.boxes b cs hb
  refine ⟨B,c,T,h1,h2,h3,fun j hj=> ?_⟩
  obtain ⟨u,hu,hr⟩:=h4 j hj
  exact ⟨u,hu,hr.move hm⟩
 ·have e:k'≠k:=by rintro rfl; rw [lk_same] at hy; cases hy
  rw [lk_other e] at hy
  exact R2.ods k' y (by rw [lk_other e]; exact hy)
 ·refine R2.noods k' ?_
  by_cases e:k'=k
  ·subst e; rw [lk_same]; rfl
  ·rw [lk_other e] at hk' ⊢; exact hk'
theorem Rel.alike (R : Rel cx st m a w) {sl : List (Nat × AV)} {bx : List (Nat × List AC)} {lb : List (Nat × Lab)} (h1 : ∀ k, lk sl k = lk st.sl k) (h2 : ∀ k, lk bx k = lk st.bx k) (h3 : ∀ k, lk lb k = lk st.lb k) :
    Rel cx ⟨sl, bx, lb⟩ m a w := by
  have e1 : lk sl = lk st.sl := funext h1
  have e2 : lk bx = lk st.bx := funext h2
  have e3 : lk lb = lk st.lb := funext h3
  exact { defers := R.defers, recs := R.recs, nt := R.nt, env := R.env, size := R.size, old := R.old, s0 := R.s0, slots := by simp only [e1, e3]; exact R.slots, sus := by simp only [e3]; exact R.sus, boxes := by simp only [e2, e3]; exact R.boxes,
          nobox := by simp only [e2]; exact R.nobox, ods := by simp only [e3]; exact R.ods, noods := by simp only [e3]; exact R.noods, deeps := by simp only [e3]; exact R.deeps, sets := by simp only [e3]; exact R.sets, ownb := R.ownb, boxb := R.boxb, injo := R.injo, injb := R.injb, dis := R.dis }
end Go.Abs
set_option linter.unusedVariables false
set_option linter.unusedSimpArgs false
namespace Go.Abs
variable {cx:Cx} {st:St} {m m':Mp} {a:Act} {w w':World}
theorem splice_one {x:List D} (h:x.length=1) (y:D):splice x 0 [y]=[y]:=by
 match x,h with
 | [b],_=>rfl
theorem setAt_yd {x:D} {i j:Nat} {y:D} (h:(x.nth j).length=1):yd (x.setAt j 0 [y]) i=if i=j then y else yd x i:=by
 have e:(x.setAt j 0 [y]).nth i=if i=j then splice (x.nth j) 0 [y] else x.nth i:=rfl
 unfold yd
 rw [e]
 split
 ·rw [splice_one h]; rfl
 ·rfl
theorem setAt_one {x:D} {i j:Nat} {y:D} (h:(x.nth j).length=1) (hi:(x.nth i).length=1):((x.setAt j 0 [y]).nth i).length=1:=by
 have e:(x.setAt j 0 [y]).nth i=if i=j then splice (x.nth j) 0 [y] else x.nth i:=rfl
 rw [e]
 split
 ·rw [splice_one h]; rfl
 ·exact hi
theorem undef_sl {x:D} (h:x= .undef) (hs:x.isSl=true):False:=by subst h; cases hs
theorem Rel.moveOut (R:Rel cx st m a w) {k kk j:Nat} {x:D} (hk:lk st.lb k=some (.deep x)) (hkk:lk st.lb kk=none) (hj:j<x.len) (hy:(yd x j).isSl=true) :
 Rel cx ⟨st.sl,st.bx,(kk,.owned (yd x j))::(k,.deep (x.setAt j 0 [.undef]))::st.lb⟩ ⟨upd m.own kk (m.inn k j),m.box,fun q i=>if q=k∧i=j then none else m.inn q i,m.mp⟩ a w:=by
 have hne:kk≠k:=by rintro rfl; rw [hk] at hkk; cases hkk
 have hno:m.own kk=none:=R.noown kk hkk
 obtain ⟨d1,d2,d3⟩:=R.deeps.ok k x hk
 obtain ⟨dl,dj⟩:=d3 j hj
 have hown:∀ q B,upd m.own kk (m.inn k j) q=some B→(q=kk∧m.inn k j=some B)∨(q≠kk∧m.own q=some B):=fun q B h=>by
  simp only [upd] at h
  split at h
  ·exact .inl ⟨by assumption,h⟩
  ·exact .inr ⟨by assumption,h⟩
 have hinn:∀ q i B,(if q=k∧i=j then none else m.inn q i)=some B→¬ (q=k∧i=j)∧m.inn q i=some B:=fun q i B h=>by
  split at h
  ·cases h
  ·exact ⟨by assumption,h⟩
 have hsub:∀ B,Sof cx m B→Sof cx ⟨upd m.own kk (m.inn k j),m.box,fun q i=>if q=k∧i=j then none else m.inn q i,m.mp⟩ B:=fun B h=>⟨h.1,fun q hq=>by
  rcases hown q B hq with ⟨_,e⟩ | ⟨_,e⟩
  ·exact h.2.2.2 _ _ e
  ·exact h.2.1 q e,h.2.2.1,fun q i hq=>h.2.2.2 q i (hinn q i B hq).2⟩
 have hext:Ext w w (Sof cx m) (Sof cx ⟨upd m.own kk (m.inn k j),m.box,fun q i=>if q=k∧i=j then none else m.inn q i,m.mp⟩):=⟨Nat.le_refl _,fun _ _ _=>rfl,fun B _ h=>hsub B h⟩
 have hm:Move cx m w (lk st.lb) ⟨upd m.own kk (m.inn k j),m.box,fun q i=>if q=k∧i=j then none else m.inn q i,m.mp⟩ w (lk ((kk,.owned (yd x j))::(k,.deep (x.setAt j 0 [.undef]))::st.lb)):=by
  refine ⟨hext,fun _ _ h=>h,fun q=> ?_⟩
  by_cases e:q=kk
  ·subst e; simp [LabOk,hkk]
  ·by_cases e2:q=k
   ·subst e2
    simp only [LabOk,hk,lk_other e,lk_same,upd_other e]
    exact .inr (.inl ⟨(x.setAt j 0 [.undef]).holed,rfl,(by first | rfl | trivial),(by first | rfl | trivial),(by first | rfl | trivial),fun B _=> .of_eq rfl⟩)
   ·have:=labs_same (cx:=cx) (st:=st) (m:=m) (m':=m) (w:=w) (w':=w) (fun _ _ h=>h) (fun _ h _=>h) (fun k B _=> .of_eq rfl) rfl q
    simp only [LabOk,lk_other e,lk_other e2,upd_other e] at this ⊢
    cases hl:lk st.lb q with
    | none=>trivial
    | some L=>
     simp only [hl] at this ⊢
     cases L with
     | owned z=>exact .inr (.inl ⟨z,(by first | rfl | trivial),(by first | rfl | trivial),(by first | rfl | trivial),(by first | rfl | trivial),fun B _=> .of_eq rfl⟩)
     | deep z=>exact .inr (.inl ⟨z.holed,(by first | rfl | trivial),(by first | rfl | trivial),(by first | rfl | trivial),(by first | rfl | trivial),fun B _=> .of_eq rfl⟩)
     | shared z=>simp
     | dead=>rfl
     | set z=>exact .inr ⟨z,(by first | rfl | trivial),(by first | rfl | trivial)⟩
 refine R.of_move (.refl _) hm (fun _ _=>rfl) (.refl _) (fun b cs hb=> ?_) R.nobox (fun q z hz=> ?_) (fun q hq=> ?_)
  ⟨fun q z hz=> ?_,fun q i B h=> ?_,fun q i B h=>R.deeps.blk _ _ _ (hinn _ _ _ h).2,fun q i q' i' B h h'=>R.deeps.inj _ _ _ _ _ (hinn _ _ _ h).2 (hinn _ _ _ h').2,fun q i k' B h h'=> ?_,fun q i b B h=>R.deeps.box _ _ _ _ (hinn _ _ _ h).2⟩ (fun q B h=> ?_) R.boxb (fun q q' B h h'=> ?_) R.injb (fun q b B h=> ?_)
 ·obtain ⟨B,c,T,h1,h2,h3,h4⟩:=R.boxes b cs hb
  refine ⟨B,c,T,h1,h2,h3,fun j hj=> ?_⟩
  obtain ⟨u,hu,hr⟩:=h4 j hj
  exact ⟨u,hu,hr.move hm⟩
 ·by_cases e:q=kk
  ·subst e
   rw [lk_same] at hz
   obtain rfl:=Option.some.inj hz
   refine ⟨hy,fun B h=> ?_⟩
   simp only [upd_same] at h
   rcases dj with ⟨q1,_⟩ | ⟨_,_,q5⟩
   ·exact (undef_sl q1 hy).elim
   ·exact (q5 B h).ext hext rfl
  ·rw [lk_other e] at hz
   by_cases e2:q=k
   ·subst e2
    rw [lk_same] at hz
    obtain rfl:=Option.some.inj hz
    refine ⟨rfl,fun B h=> ?_⟩
    simp only [upd_other e] at h
    exact Row.ext (x:=x.holed) hext rfl ((R.ods q x.holed (by rw [hk]; rfl)).2 B h)
   ·rw [lk_other e2] at hz
    refine ⟨(R.ods q z hz).1,fun B h=> ?_⟩
    simp only [upd_other e] at h
    exact ((R.ods q z hz).2 B h).ext hext rfl
 ·have e:q≠kk:=by rintro rfl; rw [lk_same] at hq; cases hq
  rw [lk_other e] at hq
  have e2:q≠k:=by rintro rfl; rw [lk_same] at hq; cases hq
  rw [lk_other e2] at hq
  simp only [upd_other e]
  exact R.noods q hq
 ·have e:q≠kk:=by rintro rfl; rw [lk_same] at hz; cases hz
  rw [lk_other e] at hz
  by_cases e2:q=k
  ·subst e2
   rw [lk_same] at hz
   cases hz
   refine ⟨rfl,d2,fun i hi=> ?_⟩
   obtain ⟨h1,h2⟩:=d3 i hi
   refine ⟨setAt_one dl h1,?_⟩
   unfold DeepAt
   rw [setAt_yd dl]
   by_cases ei:i=j
   ·subst ei
    rw [if_pos rfl]
    exact .inl ⟨rfl,by simp⟩
   ·rw [if_neg ei]
    rcases h2 with ⟨q1,q2⟩ | ⟨q1,⟨B,u,q2,q3,q4⟩,q5⟩
    ·exact .inl ⟨q1,by simp [ei,q2]⟩
    ·refine .inr ⟨q1,⟨B,u,by simp only [upd_other e]; exact q2,q3,by simp only [ei,and_false,if_false]; exact q4⟩,fun B' h'=>(q5 B' (by simpa [ei] using h')).ext hext rfl⟩
  ·rw [lk_other e2] at hz
   obtain ⟨g1,g2,g3⟩:=R.deeps.ok q z hz
   refine ⟨g1,g2,fun i hi=>⟨(g3 i hi).1,?_⟩⟩
   rcases (g3 i hi).2 with ⟨q1,q2⟩ | ⟨q1,⟨B,u,q2,q3,q4⟩,q5⟩
   ·exact .inl ⟨q1,by simp [e2,q2]⟩
   ·refine .inr ⟨q1,⟨B,u,by simp only [upd_other e]; exact q2,q3,by simp only [e2,false_and,if_false]; exact q4⟩,fun B' h'=>(q5 B' (by simpa [e2] using h')).ext hext rfl⟩
 ·obtain ⟨e,h⟩:=hinn _ _ _ h
  obtain ⟨z,h1,h2⟩:=R.deeps.only _ _ _ h
  have e1:q≠kk:=by rintro rfl; rw [hkk] at h1; cases h1
  by_cases e2:q=k
  ·subst e2
   rw [hk] at h1; cases h1
   exact ⟨x.setAt j 0 [.undef],by rw [lk_other e1,lk_same],h2⟩
  ·exact ⟨z,by rw [lk_other e1,lk_other e2]; exact h1,h2⟩
 ·obtain ⟨e,h⟩:=hinn _ _ _ h
  rcases hown k' B h' with ⟨_,g⟩ | ⟨_,g⟩
  ·exact e (R.deeps.inj _ _ _ _ _ h g)
  ·exact R.deeps.own _ _ _ _ h g
 ·rcases hown q B h with ⟨_,g⟩ | ⟨_,g⟩
  ·exact R.deeps.blk _ _ _ g
  ·exact R.ownb q B g
 ·rcases hown q B h with ⟨e,g⟩ | ⟨e,g⟩<;>rcases hown q' B h' with ⟨e',g'⟩ | ⟨e',g'⟩
  ·rw [e,e']
  ·exact (R.deeps.own _ _ _ _ g g').elim
  ·exact (R.deeps.own _ _ _ _ g' g).elim
  ·exact R.injo _ _ _ g g'
 ·rcases hown q B h with ⟨_,g⟩ | ⟨_,g⟩
  ·exact R.deeps.box _ _ _ _ g
  ·exact R.dis q b B g
theorem Rel.moveIn (R:Rel cx st m a w) {k kk j B:Nat} {x y:D} {u:Value} (hk:lk st.lb k=some (.deep x)) (hkk:lk st.lb kk=some (.owned y)) (hj:j<x.len) (hB:m.own k=some B)
 (he:SameEnv w w') (hsz:w'.heap.size=w.heap.size) (hold:∀ B',B'≠B→w'.heap[B']? =w.heap[B']?) (hkept:SizeKept w w' B)
 (hcell:w'.cell? ⟨B,j,none⟩=some u) (hcells:∀ i,i≠j→w'.cell? ⟨B,i,none⟩=w.cell? ⟨B,i,none⟩) (hu:Hdl w (m.own kk) y u) (hone:One u) :
 Rel cx ⟨st.sl,st.bx,(kk,.dead)::(k,.deep (x.setAt j 0 [y]))::st.lb⟩ ⟨upd m.own kk none,m.box,fun q i=>if q=k∧i=j then m.own kk else m.inn q i,m.mp⟩ a w':=by
 have hne:kk≠k:=by rintro rfl; rw [hk] at hkk; cases hkk
 obtain ⟨d1,d2,d3⟩:=R.deeps.ok k x hk
 obtain ⟨dl,dj⟩:=d3 j hj
 obtain ⟨ys,yr⟩:=R.owned kk y hkk
 have hown:∀ q B',upd m.own kk none q=some B'→q≠kk∧m.own q=some B':=fun q B' h=>by
  simp only [upd] at h
  split at h
  ·cases h
  ·exact ⟨by assumption,h⟩
 have hinn:∀ q i B',(if q=k∧i=j then m.own kk else m.inn q i)=some B'→(q=k∧i=j∧m.own kk=some B')∨(¬ (q=k∧i=j)∧m.inn q i=some B'):=fun q i B' h=>by
  split at h
  ·rename_i e; exact .inl ⟨e.1,e.2,h⟩
  ·exact .inr ⟨by assumption,h⟩
 have hS:∀ B',Sof cx m B'→B'≠B:=fun B' h e=>by subst e; exact h.2.1 k hB
 have hne2:∀ q B',m.own q=some B'→q≠k→B'≠B:=fun q B' h e e2=>by subst e2; exact e (R.injo _ _ _ h hB)
 have hneI:∀ q i B',m.inn q i=some B'→B'≠B:=fun q i B' h e=>by subst e; exact R.deeps.own _ _ _ _ h hB
 have hsub:∀ B',Sof cx m B'→Sof cx ⟨upd m.own kk none,m.box,fun q i=>if q=k∧i=j then m.own kk else m.inn q i,m.mp⟩ B':=fun B' h=>⟨h.1,fun q hq=>h.2.1 q (hown q B' hq).2,h.2.2.1,fun q i hq=>by
  rcases hinn q i B' hq with ⟨_,_,g⟩ | ⟨_,g⟩
  ·exact h.2.1 _ g
  ·exact h.2.2.2 _ _ g⟩
 have hext:Ext w w' (Sof cx m) (Sof cx ⟨upd m.own kk none,m.box,fun q i=>if q=k∧i=j then m.own kk else m.inn q i,m.mp⟩):=⟨by omega,fun B' _ h=>hold B' (hS B' h),fun B' _ h=>hsub B' h⟩
 have hm:Move cx m w (lk st.lb) ⟨upd m.own kk none,m.box,fun q i=>if q=k∧i=j then m.own kk else m.inn q i,m.mp⟩ w' (lk ((kk,.dead)::(k,.deep (x.setAt j 0 [y]))::st.lb)):=by
  refine ⟨hext,fun _ _ h=>h,fun q=> ?_⟩
  by_cases e:q=kk
  ·subst e; simp only [LabOk,hkk,lk_same]; exact .inl trivial
  ·by_cases e2:q=k
   ·subst e2
    simp only [LabOk,hk,lk_other e,lk_same,upd_other e]
    exact .inr (.inl ⟨(x.setAt j 0 [y]).holed,rfl,(by first | rfl | trivial),(by first | rfl | trivial),(by first | rfl | trivial),fun B' h=>by rw [hB] at h; obtain rfl:=Option.some.inj h; exact hkept⟩)
   ·have:=labs_same (cx:=cx) (st:=st) (m:=m) (m':=m) (w:=w) (w':=w) (fun _ _ h=>h) (fun _ h _=>h) (fun k B _=> .of_eq rfl) rfl q
    simp only [LabOk,lk_other e,lk_other e2,upd_other e] at this ⊢
    cases hl:lk st.lb q with
    | none=>trivial
    | some L=>
     simp only [hl] at this ⊢
     cases L with
     | owned z=>exact .inr (.inl ⟨z,(by first | rfl | trivial),(by first | rfl | trivial),(by first | rfl | trivial),(by first | rfl | trivial),fun B' h=> .of_eq (hold B' (hne2 q B' h e2))⟩)
     | deep z=>exact .inr (.inl ⟨z.holed,(by first | rfl | trivial),(by first | rfl | trivial),(by first | rfl | trivial),(by first | rfl | trivial),fun B' h=> .of_eq (hold B' (hne2 q B' h e2))⟩)
     | shared z=>simp
     | dead=>rfl
     | set z=>exact .inr ⟨z,(by first | rfl | trivial),(by first | rfl | trivial)⟩
 have hb0:cx.w0.heap.size≤B:=(R.ownb _ B hB).1
 refine R.of_move he hm (fun B' h=>hold B' (by omega)) (R.keepsOwn hB hold) (fun b cs hb=> ?_) R.nobox (fun q z hz=> ?_) (fun q hq=> ?_)
  ⟨fun q z hz=> ?_,fun q i B' h=> ?_,fun q i B' h=> ?_,fun q i q' i' B' h h'=> ?_,fun q i k' B' h h'=> ?_,fun q i b B' h=> ?_⟩ (fun q B' h=>by rw [hsz]; exact R.ownb q B' (hown q B' h).2) (fun b B' h=>by rw [hsz]; exact R.boxb b B' h) (fun q q' B' h h'=>R.injo _ _ _ (hown q B' h).2 (hown q' B' h').2) R.injb (fun q b B' h=>R.dis q b B' (hown q B' h).2)
 ·obtain ⟨B',c,T,h1,h2,h3,h4⟩:=R.boxes b cs hb
  refine ⟨B',c,T,h1,by rw [hold B' (fun e=>R.dis k b B' (e▸hB) h1)]; exact h2,h3,fun j hj=> ?_⟩
  obtain ⟨u,hu,hr⟩:=h4 j hj
  exact ⟨u,hu,hr.move hm⟩
 ·have e:q≠kk:=by rintro rfl; rw [lk_same] at hz; cases hz
  rw [lk_other e] at hz
  by_cases e2:q=k
  ·subst e2
   rw [lk_same] at hz
   obtain rfl:=Option.some.inj hz
   refine ⟨rfl,fun B' h=> ?_⟩
   obtain rfl:B'=B:=by have:=(hown q B' h).2; rw [hB] at this; exact (Option.some.inj this).symm
   obtain ⟨c,T,hc,_,hrow⟩:=(R.ods q x.holed (by rw [hk]; rfl)).2 B' hB
   obtain ⟨c',hc',hsz'⟩:=hkept c T hc
   refine ⟨c',T,hc',rfl,fun i hi=>⟨by show 1=x.stride; exact d2.symm,fun r hr=> ?_⟩⟩
   have hr':r<x.stride:=hr
   obtain rfl:r=0:=by omega
   have e3:i*(D.holed (x.setAt j 0 [y])).stride+0=i:=by show i*x.stride+0=i; rw [d2]; omega
   rw [e3]
   by_cases ei:i=j
   ·subst ei
    simp only [World.cell?,hc'] at hcell
    exact ⟨u,by simpa using hcell,.undef _ hone⟩
   ·obtain ⟨v,hv,hd⟩:=(hrow i hi).2 0 (by show 0<x.stride; omega)
    have e4:i*x.holed.stride+0=i:=by show i*x.stride+0=i; rw [d2]; omega
    rw [e4] at hv
    have:=hcells i ei
    simp only [World.cell?,hc',hc] at this
    exact ⟨v,by rw [← hv]; simpa using this,.undef _ hd.one⟩
  ·rw [lk_other e2] at hz
   refine ⟨(R.ods q z hz).1,fun B' h=> ?_⟩
   exact ((R.ods q z hz).2 B' (hown q B' h).2).ext hext (hold B' (hne2 q B' (hown q B' h).2 e2))
 ·by_cases e:q=kk
  ·subst e; simp only [upd_same]
  ·rw [lk_other e] at hq
   have e2:q≠k:=by rintro rfl; rw [lk_same] at hq; cases hq
   rw [lk_other e2] at hq
   simp only [upd_other e]
   exact R.noods q hq
 ·have e:q≠kk:=by rintro rfl; rw [lk_same] at hz; cases hz
  rw [lk_other e] at hz
  by_cases e2:q=k
  ·subst e2
   rw [lk_same] at hz
   cases hz
   refine ⟨rfl,d2,fun i hi=> ?_⟩
   obtain ⟨h1,h2⟩:=d3 i hi
   refine ⟨setAt_one dl h1,?_⟩
   unfold DeepAt
   rw [setAt_yd dl]
   by_cases ei:i=j
   ·subst ei
    rw [if_pos rfl]
    refine .inr ⟨ys,⟨B,u,by simp only [upd_other e]; exact hB,hcell,by simp only [and_self,if_true]; exact hu.same (fun B' h=>hold B' (hne2 _ B' h (Ne.symm e)))⟩,fun B' h'=> ?_⟩
    have h':m.own kk=some B':=by simpa using h'
    exact (yr B' h').ext hext (hold B' (hne2 _ B' h' (Ne.symm e)))
   ·rw [if_neg ei]
    rcases h2 with ⟨q1,q2⟩ | ⟨q1,⟨B',v,q2,q3,q4⟩,q5⟩
    ·exact .inl ⟨q1,by simp [ei,q2]⟩
    ·rw [hB] at q2; cases q2
     refine .inr ⟨q1,⟨B,v,by simp only [upd_other e]; exact hB,by rw [hcells i ei]; exact q3,by simp only [ei,and_false,if_false]; exact q4.same (fun B' h=>hold B' (hneI _ _ B' h))⟩,fun B' h'=> ?_⟩
     have h':m.inn q i=some B':=by simpa [ei] using h'
     exact (q5 B' h').ext hext (hold B' (hneI _ _ B' h'))
  ·rw [lk_other e2] at hz
   obtain ⟨g1,g2,g3⟩:=R.deeps.ok q z hz
   refine ⟨g1,g2,fun i hi=>⟨(g3 i hi).1,?_⟩⟩
   rcases (g3 i hi).2 with ⟨q1,q2⟩ | ⟨q1,⟨B',v,q2,q3,q4⟩,q5⟩
   ·exact .inl ⟨q1,by simp [e2,q2]⟩
   ·refine .inr ⟨q1,⟨B',v,by simp only [upd_other e]; exact q2,by rw [cell_of_heap (hold B' (hne2 q B' q2 e2))]; exact q3,by simp only [e2,false_and,if_false]; exact q4.same (fun B' h=>hold B' (hneI _ _ B' h))⟩,fun B' h'=> ?_⟩
    have h':m.inn q i=some B':=by simpa [e2] using h'
    exact (q5 B' h').ext hext (hold B' (hneI _ _ B' h'))
 ·rcases hinn _ _ _ h with ⟨rfl,rfl,_⟩ | ⟨e,h⟩
  ·exact ⟨x.setAt i 0 [y],by rw [lk_other (Ne.symm hne),lk_same],hj⟩
  ·obtain ⟨z,h1,h2⟩:=R.deeps.only _ _ _ h
   have e1:q≠kk:=by rintro rfl; rw [hkk] at h1; cases h1
   by_cases e2:q=k
   ·subst e2
    rw [hk] at h1; cases h1
    exact ⟨x.setAt j 0 [y],by rw [lk_other e1,lk_same],h2⟩
   ·exact ⟨z,by rw [lk_other e1,lk_other e2]; exact h1,h2⟩
 ·rw [hsz]
  rcases hinn _ _ _ h with ⟨_,_,g⟩ | ⟨_,g⟩
  ·exact R.ownb _ _ g
  ·exact R.deeps.blk _ _ _ g
 ·rcases hinn _ _ _ h with ⟨e1,e2,g⟩ | ⟨_,g⟩<;>rcases hinn _ _ _ h' with ⟨e1',e2',g'⟩ | ⟨_,g'⟩
  ·exact ⟨e1.trans e1'.symm,e2.trans e2'.symm⟩
  ·exact (R.deeps.own _ _ _ _ g' g).elim
  ·exact (R.deeps.own _ _ _ _ g g').elim
  ·exact R.deeps.inj _ _ _ _ _ g g'
 ·obtain ⟨e',g'⟩:=hown k' B' h'
  rcases hinn _ _ _ h with ⟨_,_,g⟩ | ⟨_,g⟩
  ·exact e' (R.injo _ _ _ g' g)
  ·exact R.deeps.own _ _ _ _ g g'
 ·rcases hinn _ _ _ h with ⟨_,_,g⟩ | ⟨_,g⟩
  ·exact R.dis _ b B' g
  ·exact R.deeps.box _ _ _ _ g
theorem Rel.passDeep (R:Rel cx st m a w) {k k' B:Nat} {x:D} (t:Nat) {c:Array Value} {T:TypeId} (hk:lk st.lb k=some (.deep x)) (hk':lk st.lb k'=none) (he:SameEnv w w') (hs:w.heap.size≤w'.heap.size)
 (hB:m.own k=some B∨w.heap.size≤B) (hlt:B<w'.heap.size) (hold:∀ B',B'<w.heap.size→B'≠B→w'.heap[B']? =w.heap[B']?) (hrec:KeepsObj w w')
 (hc:w'.heap[B]? =some (.cells c T (0,0))) (hcells:∀ j B0 u,j<x.len→m.own k=some B0→w.cell? ⟨B0,j,none⟩=some u→c[j]? =some u) (hnil:c[x.len]? =some (.slice none 0 0)) (hex:x.len≠0→∃ B0,m.own k=some B0) :
 Rel cx ⟨st.sl,st.bx,(k',.deep (x.app [.sl t 0 fun _=>[]]))::(k,.dead)::st.lb⟩ ⟨upd (upd m.own k none) k' (some B),m.box,fun q i=>if q=k' then m.inn k i else if q=k then none else m.inn q i,m.mp⟩ a w':=by
 have hkk:k≠k':=by rintro rfl; rw [hk] at hk'; cases hk'
 obtain ⟨d1,d2,d3⟩:=R.deeps.ok k x hk
 have hinn':∀ j,m.inn k' j=none:=fun j=>by
  cases h:m.inn k' j with
  | none=>rfl
  | some B=>obtain ⟨y,h1,_⟩:=R.deeps.only k' j B h; rw [hk'] at h1; cases h1
 have hown:∀ q B',upd (upd m.own k none) k' (some B) q=some B'→(q=k'∧B'=B)∨(q≠k'∧q≠k∧m.own q=some B'):=fun q B' h=>by
  simp only [upd] at h
  split at h
  ·exact .inl ⟨by assumption,by simpa using h.symm⟩
  ·split at h
   ·cases h
   ·exact .inr ⟨by assumption,by assumption,h⟩
 have hinn:∀ q i B',(if q=k' then m.inn k i else if q=k then none else m.inn q i)=some B'→(q=k'∧m.inn k i=some B')∨(q≠k'∧q≠k∧m.inn q i=some B'):=fun q i B' h=>by
  split at h
  ·exact .inl ⟨by assumption,h⟩
  ·split at h
   ·cases h
   ·exact .inr ⟨by assumption,by assumption,h⟩
 have hback:∀ q i B',m.inn q i=some B'→q≠k':=fun q i B' h e=>by subst e; rw [hinn' i] at h; cases h
 have hnB:∀ B',B'<w.heap.size→(∀ B0,m.own k=some B0→B'≠B0)→B'≠B:=fun B' h1 h2 e=>by
  subst e
  rcases hB with h | h
  ·exact h2 _ h rfl
  ·omega
 have hSB:∀ B',B'<w.heap.size→Sof cx m B'→B'≠B:=fun B' h1 h=>hnB B' h1 (fun B0 h0 e=>by subst e; exact h.2.1 k h0)
 have hneO:∀ q B',m.own q=some B'→q≠k→B'≠B:=fun q B' h e=>hnB B' (R.ownb q B' h).2 (fun B0 h0 e2=>by subst e2; exact e (R.injo _ _ _ h h0))
 have hneI:∀ q i B',m.inn q i=some B'→B'≠B:=fun q i B' h=>hnB B' (R.deeps.blk _ _ _ h).2 (fun B0 h0 e2=>by subst e2; exact R.deeps.own _ _ _ _ h h0)
 have hneX:∀ b B',m.box b=some B'→B'≠B:=fun b B' h=>hnB B' (R.boxb b B' h).2 (fun B0 h0 e2=>by subst e2; exact R.dis _ _ _ h0 h)
 have hsub:∀ B',B'<w.heap.size→Sof cx m B'→Sof cx ⟨upd (upd m.own k none) k' (some B),m.box,fun q i=>if q=k' then m.inn k i else if q=k then none else m.inn q i,m.mp⟩ B':=fun B' h1 h=>⟨h.1,fun q hq=>by
  rcases hown q B' hq with ⟨_,e⟩ | ⟨_,_,g⟩
  ·exact hSB B' h1 h e
  ·exact h.2.1 q g,h.2.2.1,fun q i hq=>by
  rcases hinn q i B' hq with ⟨_,g⟩ | ⟨_,_,g⟩
  ·exact h.2.2.2 _ _ g
  ·exact h.2.2.2 _ _ g⟩
 have hext:Ext w w' (Sof cx m) (Sof cx ⟨upd (upd m.own k none) k' (some B),m.box,fun q i=>if q=k' then m.inn k i else if q=k then none else m.inn q i,m.mp⟩):=⟨hs,fun B' h1 h=>hold B' h1 (hSB B' h1 h),fun B' h1 h=>hsub B' h1 h⟩
 have hI:∀ q i B',m.inn q i=some B'→w'.heap[B']? =w.heap[B']? :=fun q i B' h=>hold B' (R.deeps.blk _ _ _ h).2 (hneI q i B' h)
 have hm:Move cx m w (lk st.lb) ⟨upd (upd m.own k none) k' (some B),m.box,fun q i=>if q=k' then m.inn k i else if q=k then none else m.inn q i,m.mp⟩ w' (lk ((k',.deep (x.app [.sl t 0 fun _=>[]]))::(k,.dead)::st.lb)):=by
  refine ⟨hext,fun _ _ h=>h,fun q=> ?_⟩
  by_cases e:q=k'
  ·subst e; simp [LabOk,hk']
  ·by_cases e2:q=k
   ·subst e2; simp only [LabOk,hk,lk_other e,lk_same]; exact .inl trivial
   ·have:=labs_same (cx:=cx) (st:=st) (m:=m) (m':=m) (w:=w) (w':=w) (fun _ _ h=>h) (fun _ h _=>h) (fun k B _=> .of_eq rfl) rfl q
    simp only [LabOk,lk_other e,lk_other e2,upd_other e,upd_other e2] at this ⊢
    cases hl:lk st.lb q with
    | none=>trivial
    | some L=>
     simp only [hl] at this ⊢
     cases L with
     | owned z=>exact .inr (.inl ⟨z,(by first | rfl | trivial),(by first | rfl | trivial),(by first | rfl | trivial),(by first | rfl | trivial),fun B' h=> .of_eq (hold B' (R.ownb q B' h).2 (hneO q B' h e2))⟩)
     | deep z=>exact .inr (.inl ⟨z.holed,(by first | rfl | trivial),(by first | rfl | trivial),(by first | rfl | trivial),(by first | rfl | trivial),fun B' h=> .of_eq (hold B' (R.ownb q B' h).2 (hneO q B' h e2))⟩)
     | shared z=>simp
     | dead=>rfl
     | set z=>exact .inr ⟨z,(by first | rfl | trivial),(by first | rfl | trivial)⟩
 have hlo:cx.w0.heap.size≤B:=by
  rcases hB with h | h
  ·exact (R.ownb _ _ h).1
  ·exact Nat.le_trans R.size h
 refine R.of_move he hm (fun B' h=>hold B' (Nat.lt_of_lt_of_le h R.size) (by omega)) hrec (fun b cs hb=> ?_) R.nobox (fun q z hz=> ?_) (fun q hq=> ?_)
  ⟨fun q z hz=> ?_,fun q i B' h=> ?_,fun q i B' h=> ?_,fun q i q' i' B' h h'=> ?_,fun q i k2 B' h h'=> ?_,fun q i b B' h=> ?_⟩ (fun q B' h=> ?_) (fun b B' h=>⟨(R.boxb b B' h).1,Nat.lt_of_lt_of_le (R.boxb b B' h).2 hs⟩) (fun q q' B' h h'=> ?_) R.injb (fun q b B' h h'=> ?_)
 ·obtain ⟨B',c,T,h1,h2,h3,h4⟩:=R.boxes b cs hb
  refine ⟨B',c,T,h1,by rw [hold B' (R.boxb b B' h1).2 (hneX b B' h1)]; exact h2,h3,fun j hj=> ?_⟩
  obtain ⟨u,hu,hr⟩:=h4 j hj
  exact ⟨u,hu,hr.move hm⟩
 ·by_cases e:q=k'
  ·subst e
   rw [lk_same] at hz
   obtain rfl:=Option.some.inj hz
   refine ⟨rfl,fun B' h=> ?_⟩
   simp only [upd_same] at h
   obtain rfl:=Option.some.inj h
   refine ⟨c,T,hc,rfl,fun i hi=>⟨by show 1=x.stride; exact d2.symm,fun r hr=> ?_⟩⟩
   have hr':r<x.stride:=hr
   obtain rfl:r=0:=by omega
   have e3:i*(D.holed (x.app [.sl t 0 fun _=>[]])).stride+0=i:=by show i*x.stride+0=i; rw [d2]; omega
   rw [e3]
   have hi':i<x.len+1:=hi
   by_cases ei:i=x.len
   ·subst ei; exact ⟨_,hnil,.undef _ ⟨rfl,rfl⟩⟩
   ·obtain ⟨B0,h0⟩:=hex (by omega)
    obtain ⟨c0,T0,hc0,_,hrow⟩:=(R.ods k x.holed (by rw [hk]; rfl)).2 B0 h0
    obtain ⟨v,hv,hd⟩:=(hrow i (by show i<x.len; omega)).2 0 (by show 0<x.stride; omega)
    have e4:i*x.holed.stride+0=i:=by show i*x.stride+0=i; rw [d2]; omega
    rw [e4] at hv
    exact ⟨v,hcells i B0 v (by omega) h0 (by simp [World.cell?,hc0,hv]),.undef _ hd.one⟩
  ·rw [lk_other e] at hz
   have e2:q≠k:=by rintro rfl; rw [lk_same] at hz; cases hz
   rw [lk_other e2] at hz
   refine ⟨(R.ods q z hz).1,fun B' h=> ?_⟩
   simp only [upd_other e,upd_other e2] at h
   exact ((R.ods q z hz).2 B' h).ext hext (hold B' (R.ownb q B' h).2 (hneO q B' h e2))
 ·have e:q≠k':=by rintro rfl; rw [lk_same] at hq; cases hq
  rw [lk_other e] at hq
  by_cases e2:q=k
  ·subst e2; simp only [upd_other e,upd_same]
  ·rw [lk_other e2] at hq
   simp only [upd_other e,upd_other e2]
   exact R.noods q hq
 ·by_cases e:q=k'
  ·subst e
   rw [lk_same] at hz
   cases hz
   refine ⟨rfl,d2,fun i hi=> ?_⟩
   have hi':i<x.len+1:=hi
   have en:(x.app [.sl t 0 fun _=>[]]).nth i=if i=x.len then [.sl t 0 fun _=>[]] else x.nth i:=rfl
   unfold DeepAt yd
   rw [en]
   by_cases ei:i=x.len
   ·subst ei
    rw [if_pos rfl]
    have hn:m.inn k x.len=none:=by
     cases h:m.inn k x.len with
     | none=>rfl
     | some B2=>obtain ⟨y,h1,h2⟩:=R.deeps.only k _ B2 h; rw [hk] at h1; cases h1; omega
    refine ⟨rfl,.inr ⟨rfl,⟨B,.slice none 0 0,by simp only [upd_same],by simp only [World.cell?,hc]; exact hnil,by simp only [if_true,hn]; exact ⟨rfl,rfl⟩⟩,fun B' h'=> ?_⟩⟩
    simp only [if_true,hn] at h'; cases h'
   ·rw [if_neg ei]
    obtain ⟨h1,h2⟩:=d3 i (by omega)
    refine ⟨h1,?_⟩
    rcases h2 with ⟨q1,q2⟩ | ⟨q1,⟨B0,v,q2,q3,q4⟩,q5⟩
    ·exact .inl ⟨q1,by simp [q2]⟩
    ·refine .inr ⟨q1,⟨B,v,by simp only [upd_same],?_,by simp only [if_true]; exact q4.same (hI k i)⟩,fun B' h'=> ?_⟩
     ·have:=hcells i B0 v (by omega) q2 q3
      simp [World.cell?,hc,this]
     ·have h':m.inn k i=some B':=by simpa using h'
      exact (q5 B' h').ext hext (hI k i B' h')
  ·rw [lk_other e] at hz
   have e2:q≠k:=by rintro rfl; rw [lk_same] at hz; cases hz
   rw [lk_other e2] at hz
   obtain ⟨g1,g2,g3⟩:=R.deeps.ok q z hz
   refine ⟨g1,g2,fun i hi=>⟨(g3 i hi).1,?_⟩⟩
   rcases (g3 i hi).2 with ⟨q1,q2⟩ | ⟨q1,⟨B',v,q2,q3,q4⟩,q5⟩
   ·exact .inl ⟨q1,by simp only [if_neg e,if_neg e2]; exact q2⟩
   ·refine .inr ⟨q1,⟨B',v,by simp only [upd_other e,upd_other e2]; exact q2,by rw [cell_of_heap (hold B' (R.ownb q B' q2).2 (hneO q B' q2 e2))]; exact q3,by simp only [if_neg e,if_neg e2]; exact q4.same (hI q i)⟩,fun B' h'=> ?_⟩
    have h':m.inn q i=some B':=by simpa only [if_neg e,if_neg e2] using h'
    exact (q5 B' h').ext hext (hI q i B' h')
 ·rcases hinn _ _ _ h with ⟨e,g⟩ | ⟨e,e2,g⟩
  ·subst e
   obtain ⟨z,h1,h2⟩:=R.deeps.only _ _ _ g
   rw [hk] at h1; cases h1
   exact ⟨_,lk_same _ _ _,by show i<x.len+1; omega⟩
  ·obtain ⟨z,h1,h2⟩:=R.deeps.only _ _ _ g
   exact ⟨z,by rw [lk_other e,lk_other e2]; exact h1,h2⟩
 ·rcases hinn _ _ _ h with ⟨_,g⟩ | ⟨_,_,g⟩<;>exact ⟨(R.deeps.blk _ _ _ g).1,Nat.lt_of_lt_of_le (R.deeps.blk _ _ _ g).2 hs⟩
 ·rcases hinn _ _ _ h with ⟨e,g⟩ | ⟨e,e2,g⟩<;>rcases hinn _ _ _ h' with ⟨e',g'⟩ | ⟨e',e2',g'⟩
  ·exact ⟨e.trans e'.symm,(R.deeps.inj _ _ _ _ _ g g').2⟩
  ·exact (e2' (R.deeps.inj _ _ _ _ _ g' g).1).elim
  ·exact (e2 (R.deeps.inj _ _ _ _ _ g g').1).elim
  ·exact R.deeps.inj _ _ _ _ _ g g'
 ·have hg:∃ q2 i2,m.inn q2 i2=some B':=by
   rcases hinn _ _ _ h with ⟨_,g⟩ | ⟨_,_,g⟩<;>exact ⟨_,_,g⟩
  obtain ⟨q2,i2,g⟩:=hg
  rcases hown k2 B' h' with ⟨_,e⟩ | ⟨_,_,g'⟩
  ·exact hneI _ _ _ g e
  ·exact R.deeps.own _ _ _ _ g g'
 ·rcases hinn _ _ _ h with ⟨_,g⟩ | ⟨_,_,g⟩<;>exact R.deeps.box _ _ _ _ g
 ·rcases hown q B' h with ⟨_,rfl⟩ | ⟨_,_,g⟩
  ·exact ⟨hlo,hlt⟩
  ·exact ⟨(R.ownb q B' g).1,Nat.lt_of_lt_of_le (R.ownb q B' g).2 hs⟩
 ·rcases hown q B' h with ⟨e,g⟩ | ⟨e,e2,g⟩<;>rcases hown q' B' h' with ⟨e',g'⟩ | ⟨e',e2',g'⟩
  ·rw [e,e']
  ·exact (hneO _ _ g' e2' g).elim
  ·exact (hneO _ _ g e2 g').elim
  ·exact R.injo _ _ _ g g'
 ·rcases hown q B' h with ⟨_,e⟩ | ⟨_,_,g⟩
  ·exact hneX b B' h' e
  ·exact R.dis q b B' g h'
end Go.Abs
set_option linter.unusedVariables false
set_option linter.unusedSimpArgs false
namespace Go.Abs
def bad:Rd Out:= .ret ⟨False,default,[]⟩
def okv (v:AV):Rd Out:= .ret ⟨True,v,[]⟩
structure TI where
 size:Nat
 bytes:Nat
 agg:Bool
 zero:List Value
 desc:TypeDesc
 eqn:Option (List Bool):=none
abbrev Tys:=Nat→Option TI
def AC.solid:AC→Bool | .undef=>false | _=>true
def AU.solid:AU→Bool | .c x=>x.solid | .agg l=>l.all AC.solid
def opd (x:Operand) (f:AV→Rd Out):Rd Out:=
 match x with
 | .tmp t=> .slot t f
 | .const v=>f (ofValue v)
 | .func g=>f (.c (.clo g []))
 | .global g=>f (.c (.glob g 0))
def opds:List Operand→(List AV→Rd Out)→Rd Out
 | [],f=>f []
 | x::r,f=>opd x fun v=>opds r fun vs=>f (v::vs)
def toD (x:AC) (f:D→Rd Out):Rd Out:=
 match x with
 | .d x=>f x
 | .nils=>f (.sl 0 0 fun _=>[])
 | .clo g []=>f (.fn g)
 | .own k=> .lab k fun
  | some (.owned x)=>f x
  | some (.shared x)=>f x
  | _=>bad
 | .sptr l 0=>f (.pt true l)
 | _=>bad
def toDs:List AC→(List D→Rd Out)→Rd Out
 | [],f=>f []
 | x::r,f=>toD x fun d=>toDs r fun ds=>f (d::ds)
def capDs (x:Cap) (f:List D→Rd Out):Rd Out:=
 match x with
 | .ref b 0=> .box b fun
  | some cs=>toDs cs f
  | none=>bad
 | .sptr l 0=>f l
 | _=>bad
def capsDs:List Cap→(List (List D)→Rd Out)→Rd Out
 | [],f=>f []
 | x::r,f=>capDs x fun d=>capsDs r fun ds=>f (d::ds)
def chunks {α:Type} (s:Nat) (l:List α):Nat→List (List α)
 | 0=>[]
 | n+1=>l.take s::chunks s (l.drop s) n
def bslD (off n s:Nat) (cs:List AC) (f:D→Rd Out):Rd Out:=
 if off+n*s≤cs.length∧0<s then toDs ((cs.drop off).take (n*s)) fun ds=>f (D.ofList s (chunks s ds n)) else bad
def toArg (v:AV) (f:Arg→Rd Out):Rd Out:=
 match v with
 | .u (.c (.clo g caps))=>capsDs caps fun ds=>f (.clo g ds)
 | .u (.c (.bsl b off n s))=> .box b fun
  | some cs=>bslD off n s cs fun d=>f (.c d)
  | none=>bad
 | .u (.c x)=>toD x fun d=>f (.c d)
 | .u (.agg l)=>toDs l fun ds=>f (.agg ds)
 | _=>bad
def toArgs:List AV→(List Arg→Rd Out)→Rd Out
 | [],f=>f []
 | v::r,f=>toArg v fun a=>toArgs r fun as=>f (a::as)
def newLabN:Nat→Nat→(Nat→Rd Out)→Rd Out
 | 0,_,_=>bad
 | n+1,nm,f=> .lab nm fun
  | none=>f nm
  | some _=>newLabN n (nm+100000) f
def newLab (nm:Nat) (f:Nat→Rd Out):Rd Out:=newLabN 8 nm f
def newBoxN:Nat→Nat→(Nat→Rd Out)→Rd Out
 | 0,_,_=>bad
 | n+1,nm,f=> .box nm fun
  | none=>f nm
  | some _=>newBoxN n (nm+100000) f
def newBox (nm:Nat) (f:Nat→Rd Out):Rd Out:=newBoxN 8 nm f
def shareLabs:List AC→(List Wr→Rd Out)→Rd Out
 | [],f=>f []
 | .own k::r,f=> .lab k fun
  | some (.owned x)=>shareLabs r fun ws=>f (.lab k (.shared x)::ws)
  | some (.shared _)=>shareLabs r f
  | _=>bad
 | .bsl _ _ _ _::_,_=>bad
 | _::r,f=>shareLabs r f
def newSl (lin:Bool) (nm:Nat) (p:Prop) (x:D) (ws:List Wr):Rd Out:=
 if lin then newLab nm fun k=> .ret ⟨p,.c (.own k),ws++[.lab k (.owned x)]⟩
 else match ws with
  | []=> .ret ⟨p,.c (.d x),[]⟩
  | _=>bad
def binD (op:BinOp) (k:IntKind) (a b:Int):Option (D×Prop):=
 match op with
 | .add=>some (.int k (k.wrap (a+b)),True)
 | .sub=>some (.int k (k.wrap (a - b)),True)
 | .mul=>some (.int k (k.wrap (a*b)),True)
 | .quo=>some (.int k (k.wrap (a.tdiv b)),b≠0)
 | .rem=>some (.int k (a.tmod b),b≠0)
 | .eql=>some (.bool (a == b),True)
 | .neq=>some (.bool (a != b),True)
 | .lss=>some (.bool (decide (a<b)),True)
 | .leq=>some (.bool (decide (a≤b)),True)
 | .gtr=>some (.bool (decide (a>b)),True)
 | .geq=>some (.bool (decide (a≥b)),True)
 | .shr=>some (.int k (a / 2 ^ b.toNat),0≤b∧b≤(k.bits:Int))
 | _=>none
def eqCells:List Bool→List AC→List AC→Option Bool
 | [],[],[]=>some true
 | true::ks,.d (.int .i64 a)::r,.d (.int .i64 b)::s=>(eqCells ks r s).map fun e=>(a == b) && e
 | false::ks,.d (.str a)::r,.d (.str b)::s=>(eqCells ks r s).map fun e=>(decide (a=b)) && e
 | _,_,_=>none
def strBin (op:BinOp) (a b:ByteArray):Rd Out:=
 match op with
 | .eql=>okv (.c (.d (.bool (decide (a=b)))))
 | .neq=>okv (.c (.d (.bool (!(decide (a=b))))))
 | .add=> .ret ⟨a.size+b.size≤9223372036854775807,.c (.d (.str (a++b))),[]⟩
 | _=>bad
def errBin (ty:Tys) (c:Bool) (op:BinOp) (t:Nat) (a b:Bool):Rd Out:=
 match ty t with
 | some { desc:= .interface _,.. } =>
  match op with
  | .eql=> .ret ⟨c=true∧b=false,.c (.d (.bool (!a))),[]⟩
  | .neq=> .ret ⟨c=true∧b=false,.c (.d (.bool a)),[]⟩
  | _=>bad
 | _=>bad
def isConst:Operand→Bool | .const _=>true | _=>false
def evBin (ty:Tys) (c:Bool) (op:BinOp) (t:Nat) (x y:AV):Rd Out:=
 match x,y with
 | .u (.c (.d (.int j a))),.u (.c (.d (.int k b)))=>
  if j=k then
   match binD op j a b with
   | some (v,p)=> .ret ⟨p,.c (.d v),[]⟩
   | none=>bad
  else bad
 | .u (.c (.d (.bool a))),.u (.c (.d (.bool b)))=>
  match ty t with
  | some { desc:= .bool,.. } =>
   match op with
   | .eql=>okv (.c (.d (.bool (a == b))))
   | .neq=>okv (.c (.d (.bool (!(a == b)))))
   | _=>bad
  | _=>bad
 | .u (.c (.d (.pt b _))),.u (.c (.d (.pt c _)))=>
  match ty t with
  | some { desc:= .pointer _,.. } =>
   match op with
   | .eql=> .ret ⟨c=false,.c (.d (.bool (!b))),[]⟩
   | .neq=> .ret ⟨c=false,.c (.d (.bool b)),[]⟩
   | _=>bad
  | _=>bad
 | .u (.c (.sptr _ _)),.u (.c (.d (.pt c _)))=>
  match ty t with
  | some { desc:= .pointer _,.. } =>
   match op with
   | .eql=> .ret ⟨c=false,.c (.d (.bool false)),[]⟩
   | .neq=> .ret ⟨c=false,.c (.d (.bool true)),[]⟩
   | _=>bad
  | _=>bad
 | .u (.agg l),.u (.agg r)=>
  match ty t with
  | some { eqn:=some ks,.. } =>
   match eqCells ks l r with
   | some e=>
    match op with
    | .eql=>okv (.c (.d (.bool e)))
    | .neq=>okv (.c (.d (.bool (!e))))
    | _=>bad
   | none=>bad
  | _=>bad
 | .u (.c (.d (.str a))),.u (.c (.d (.str b)))=>strBin op a b
 | .u (.c (.d (.err a))),.u (.c (.d (.err b)))=>errBin ty c op t a b
 | _,_=>bad
def unstrip (v:AV):Option (AU×Bool):=
 match v with
 | .u x=>some (x,true)
 | .cnd q x=>some (x,q)
 | .tup _=>none
def evPick (c a b:AV):Rd Out:=
 match c,unstrip a,unstrip b with
 | .u (.c (.d (.bool p))),some (x,q),some (y,r)=>
  match x,y with
  | .c (.d (.bool x)),.c (.d (.bool y))=> .ret ⟨(p=true→q=true)∧(p=false→r=true),.c (.d (.bool (bif p then x else y))),[]⟩
  | .c (.d (.int j x)),.c (.d (.int k y))=> .ret ⟨(p=true→q=true)∧(p=false→r=true)∧j=k,.c (.d (.int j (bif p then x else y))),[]⟩
  | _,_=>bad
 | _,_,_=>bad
def loadD (i:TI) (off:Nat) (l:List AC):Rd Out:=
 if i.agg then .ret ⟨off+i.size≤l.length,.agg ((l.drop off).take i.size),[]⟩
 else .ret ⟨off<l.length,.c (l.getD off .undef),[]⟩
def loadP (i:TI) (b:Bool) (l:List D):Rd Out:=
 if i.agg then .ret ⟨b=true∧0+i.size≤(l.map AC.d).length,.agg (((l.map .d).drop 0).take i.size),[]⟩
 else .ret ⟨b=true∧0<(l.map AC.d).length,.c ((l.map .d).getD 0 .undef),[]⟩
def loadG (i:TI) (g off:Nat):Rd Out:=
 match i.agg,lk glb g with
 | false,some l=> .ret ⟨off<l.length,.c (.d (.int .i64 (l.getD off 0))),[]⟩
 | _,_=>match lk glbS g with
  | some l=>loadD i off (l.map fun s=> .d (.str s))
  | none=>bad
def evLoad (ty:Tys) (t:Nat) (a:AV):Rd Out:=
 match ty t,a with
 | some i,.u (.c (.ref b off))=> .box b fun
  | some cs=>loadD i off cs
  | none=>bad
 | some i,.u (.c (.optr k j off))=> .lab k fun
  | some (.owned x)=>loadD i off ((x.nth j).map .d)
  | some (.shared x)=>loadD i off ((x.nth j).map .d)
  | _=>bad
 | some i,.u (.c (.sptr l off))=>loadD i off (l.map .d)
 | some i,.u (.c (.d (.pt b l)))=>loadP i b l
 | some i,.u (.c (.glob g off))=>loadG i g off
 | _,_=>bad
def plainD:AC→Option D
 | .d x=>some x
 | .nils=>some (.sl 0 0 fun _=>[])
 | .clo g []=>some (.fn g)
 | _=>none
def plainDs:List AC→Option (List D)
 | []=>some []
 | x::r=>match plainD x,plainDs r with
  | some d,some ds=>some (d::ds)
  | _,_=>none
def evStore (ty:Tys) (t:Nat) (a v:AV):Rd Out:=
 match ty t,v with
 | some i,.u v=>
  match a with
  | .u (.c (.ref b off))=> .box b fun
   | some cs=> .ret ⟨v.cells.length=i.size∧v.solid=true∧off+v.cells.length≤cs.length,default,[.box b (splice cs off v.cells)]⟩
   | none=>bad
  | .u (.c (.optr k j off))=> .lab k fun
   | some (.owned x)=>
    match plainDs v.cells with
    | some ds=> .ret ⟨v.cells.length=i.size∧v.solid=true∧off+v.cells.length≤x.stride,default,[.lab k (.owned (x.setAt j off ds))]⟩
    | none=>bad
   | _=>bad
  | _=>bad
 | _,_=>bad
def evLoadH (ty:Tys) (lin:Bool) (nm t:Nat) (a:AV):Rd Out:=
 match a with
 | .u (.c (.optr k j off))=> .lab k fun
  | some (.deep x)=>match lin,ty t with
   | true,some i=>newLab nm fun kk=> .ret ⟨i.agg=false∧off=0∧j<x.len∧(yd x j).isSl=true,.c (.own kk),[.lab k (.deep (x.setAt j 0 [.undef])),.lab kk (.owned (yd x j))]⟩
   | _,_=>bad
  | _=>evLoad ty t a
 | _=>evLoad ty t a
def evStoreH (ty:Tys) (t:Nat) (a v:AV):Rd Out:=
 match a,v with
 | .u (.c (.optr k j off)),.u (.c (.own kk))=> .lab k fun
  | some (.deep x)=> .lab kk fun
   | some (.owned y)=>match ty t with
    | some i=> .ret ⟨i.size=1∧off=0∧j<x.len,default,[.lab k (.deep (x.setAt j 0 [y])),.lab kk .dead]⟩
    | none=>bad
   | _=>bad
  | _=>bad
 | _,_=>evStore ty t a v
def fieldOff (ty:Tys) (s f:Nat):Option (Nat×TI):=
 match ty s with
 | some { desc:= .struct fs,.. } =>
  match fs.toList[f]? with
  | some fd=>match ty fd.type with
   | some i=>if i.size=0 then none else some (fd.offset,i)
   | none=>none
  | none=>none
 | _=>none
def evFieldAddr (ty:Tys) (s f:Nat) (a:AV):Rd Out:=
 match fieldOff ty s f,a with
 | some (o,_),.u (.c (.ref b off))=>okv (.c (.ref b (off+o)))
 | some (o,_),.u (.c (.optr k i off))=> .lab k fun
  | some (.owned _)=>okv (.c (.optr k i (off+o)))
  | some (.shared _)=>okv (.c (.optr k i (off+o)))
  | _=>bad
 | some (o,_),.u (.c (.sptr l off))=>okv (.c (.sptr l (off+o)))
 | some (o,_),.u (.c (.d (.pt b l)))=> .ret ⟨b=true,.c (.sptr l o),[]⟩
 | _,_=>bad
def evField (ty:Tys) (s f:Nat) (a:AV):Rd Out:=
 match fieldOff ty s f,a with
 | some (o,i),.u (.agg l)=>loadD i o l
 | _,_=>bad
def elemTI (ty:Tys) (t:Nat):Option TI:=
 match ty t with
 | some { desc:= .slice e,.. } =>ty e
 | some { desc:= .array _ e,.. } =>ty e
 | _=>none
def evIndexAddr (ty:Tys) (t:Nat) (a ix:AV):Rd Out:=
 match ty t,elemTI ty t,ix with
 | some { desc:= .slice _,.. },some e,.u (.c (.d (.int _ i)))=>
  match a with
  | .u (.c (.own k))=> .lab k fun
   | some (.owned x)=> .ret ⟨(0≤i∧i<x.len)∧x.stride=e.size,.c (.optr k i.toNat 0),[]⟩
   | some (.shared x)=> .ret ⟨(0≤i∧i<x.len)∧x.stride=e.size,.c (.sptr (x.nth i.toNat) 0),[]⟩
   | some (.deep x)=> .ret ⟨(0≤i∧i<x.len)∧x.stride=e.size,.c (.optr k i.toNat 0),[]⟩
   | _=>bad
  | .u (.c (.d x))=> .ret ⟨x.isSl=true∧(0≤i∧i<x.len)∧x.stride=e.size,.c (.sptr (x.nth i.toNat) 0),[]⟩
  | .u (.c (.bsl b off n s))=> .ret ⟨(0≤i∧i<n)∧s=e.size,.c (.ref b (off+i.toNat*s)),[]⟩
  | _=>bad
 | some { desc:= .array n _,.. },some e,.u (.c (.d (.int _ i)))=>
  match a with
  | .u (.c (.ref b off))=> .ret ⟨0≤i∧i<n,.c (.ref b (off+i.toNat*e.size)),[]⟩
  | .u (.c (.sptr l off))=> .ret ⟨0≤i∧i<n,.c (.sptr l (off+i.toNat*e.size)),[]⟩
  | .u (.c (.glob g off))=> .ret ⟨0≤i∧i<n,.c (.glob g (off+i.toNat*e.size)),[]⟩
  | .u (.c (.optr k j off))=> .lab k fun
   | some (.owned _)=> .ret ⟨0≤i∧i<n,.c (.optr k j (off+i.toNat*e.size)),[]⟩
   | some (.shared _)=> .ret ⟨0≤i∧i<n,.c (.optr k j (off+i.toNat*e.size)),[]⟩
   | _=>bad
  | _=>bad
 | _,_,_=>bad
def evIndex (ty:Tys) (t:Nat) (a ix:AV):Rd Out:=
 match ty t,elemTI ty t,ix,a with
 | some { desc:= .array n _,.. },some e,.u (.c (.d (.int _ i))),.u (.agg l)=>
  if i=0∨0<i then
   if e.agg then .ret ⟨i<n∧i.toNat*e.size+e.size≤l.length,.agg ((l.drop (i.toNat*e.size)).take e.size),[]⟩
   else .ret ⟨i<n∧e.size=1∧i.toNat<l.length,.c (l.getD i.toNat .undef),[]⟩
  else bad
 | some { desc:= .string,.. },_,.u (.c (.d (.int _ i))),.u (.c (.d (.str s)))=> .ret ⟨0≤i∧i<s.size,.c (.d (.int .u8 (byteAt s i.toNat))),[]⟩
 | _,_,_,_=>bad
def firsts (x:D):Nat→Nat→List D
 | 0,_=>[]
 | n+1,i=>(x.nth i).getD 0 .undef::firsts x n (i+1)
def evToArr (ty:Tys) (t:Nat) (a:AV):Rd Out:=
 match ty t,a with
 | some { desc:= .array n _,.. },.u (.c (.d x))=> .ret ⟨x.isSl=true∧x.stride=1∧0<n∧n≤x.len,.c (.sptr (firsts x n 0) 0),[]⟩
 | _,_=>bad
def fillParts (place:Nat→Option (Nat×Nat)):List AC→List (Nat×AV)→Option (List AC)
 | cs,[]=>some cs
 | cs,(i,.u v)::r=>
  match place i with
  | some (o,n)=>if v.cells.length=n∧v.solid=true∧o+n≤cs.length then fillParts place (splice cs o v.cells) r else none
  | none=>none
 | _,_=>none
def fieldPlace' (ty:Tys) (fs:List Field) (i:Nat):Option (Nat×Nat):=
 match fs[i]? with
 | some fd=>match ty fd.type with
  | some i=>some (fd.offset,i.size)
  | none=>none
 | none=>none
def evBuild (ty:Tys) (t:Nat) (parts:List (Nat×AV)):Rd Out:=
 match ty t with
 | some { desc:= .struct fs,zero:=z,.. } =>
  if fs.toList.all (fun f=>(ty f.type).isSome) then
   match fillParts (fieldPlace' ty fs.toList) (z.map zAC) parts with
   | some cs=>okv (.agg cs)
   | none=>bad
  else bad
 | some { desc:= .array _ e,zero:=z,.. } =>
  match ty e with
  | some i=>
   match fillParts (fun j=>some (j*i.size,i.size)) (z.map zAC) parts with
   | some cs=>okv (.agg cs)
   | none=>bad
  | none=>bad
 | _=>bad
def reps {α:Type} (l:List α):Nat→List α
 | 0=>[]
 | n+1=>l++reps l n
def toDsN (cs:List AC) (f:List D→Rd Out):Rd Out:=
 match cs with
 | [.nils]=>f [.nl]
 | cs=>toDs cs f
def hasRef:List AC→Bool
 | []=>false
 | .ref _ _::_=>true
 | _::r=>hasRef r
def evBuildSlice (ty:Tys) (lin:Bool) (nm t len:Nat) (parts:List (Nat×AV)):Rd Out:=
 match ty t with
 | some { desc:= .slice e,.. } =>
  match ty e with
  | some i=>
   match fillParts (fun j=>some (j*i.size,i.size)) (reps (i.zero.map zAC) len) parts with
   | some cs=>if hasRef cs=true then (if lin=true then newBox nm fun b=> .ret ⟨(len*i.size≤16777216∧len*i.size≠0)∧cs.all AC.solid=true,.c (.bsl b 0 len i.size),[.box b cs]⟩ else bad)
    else shareLabs cs fun ws=>toDsN cs fun ds=>newSl lin nm (len*i.size≤16777216∧i.zero.length=i.size∧0<i.size) (D.ofList i.size (chunks i.size ds len)) ws
   | none=>bad
  | none=>bad
 | _=>bad
def plainDsN:List AC→Option (List D)
 | [.nils]=>some [.nl]
 | cs=>plainDs cs
def evMakeSlice (ty:Tys) (lin:Bool) (nm t:Nat) (l c:AV):Rd Out:=
 match ty t,l,c with
 | some { desc:= .slice e,.. },.u (.c (.d (.int _ l))),.u (.c (.d (.int _ c)))=>
  match ty e with
  | some i=>
   match plainDsN (i.zero.map zAC) with
   | some ds=>newSl lin nm ((0≤l∧l≤c∧c≤9223372036854775807∧i.bytes*c≤281474976710656)∧i.zero.length=i.size∧0<i.size) (D.rep i.size l.toNat ds) []
   | none=>bad
  | none=>bad
 | _,_,_=>bad
def bound (x:Option AV) (d:Nat):Option Int:=
 match x with
 | none=>some d
 | some (.u (.c (.d (.int _ n))))=>some n
 | _=>none
def evCut (e:TI) (lo hi:Option AV) (max:Bool) (d:D) (ws:List Wr):Rd Out:=
 match bound lo 0,bound hi d.len with
 | some l,some h=> .ret ⟨max=false∧d.isSl=true∧(d.len≠0→d.stride=e.size)∧(0≤l∧l≤h∧h≤d.len),.c (.d (d.sub l.toNat h.toNat)),ws⟩
 | _,_=>bad
def evSlice (ty:Tys) (t:Nat) (x:AV) (lo hi:Option AV) (max:Bool):Rd Out:=
 match ty t,elemTI ty t with
 | some { desc:= .slice _,.. },some e=>
  match x with
  | .u (.c x)=>shareLabs [x] fun ws=>toD x fun d=>evCut e lo hi max d ws
  | _=>bad
 | some { desc:= .array n _,.. },some e=>
  match x with
  | .u (.c (.ref b off))=>
   match bound lo 0,bound hi n with
   | some l,some h=> .ret ⟨max=false∧(0≤l∧l≤h∧h≤n)∧l<n,.c (.bsl b (off+l.toNat*e.size) (h.toNat - l.toNat) e.size),[]⟩
   | _,_=>bad
  | _=>bad
 | some { desc:= .string,.. },_=>
  match x with
  | .u (.c (.d (.str s)))=>
   match bound lo 0,bound hi s.size with
   | some l,some h=> .ret ⟨max=false∧0≤l∧l≤h∧h≤s.size,.c (.d (.str (s.extract l.toNat h.toNat))),[]⟩
   | _,_=>bad
  | _=>bad
 | _,_=>bad
def evLen (ty:Tys) (t:Nat) (x:AV):Rd Out:=
 match ty t,x with
 | some { desc:= .slice _,.. },.u (.c (.bsl _ _ n _))=>okv (.c (.d (.int .i64 n)))
 | some { desc:= .slice _,.. },.u (.c (.own k))=> .lab k fun
  | some (.owned x)=> .ret ⟨x.isSl=true,.c (.d (.int .i64 x.len)),[]⟩
  | some (.shared x)=> .ret ⟨x.isSl=true,.c (.d (.int .i64 x.len)),[]⟩
  | some (.deep x)=> .ret ⟨x.isSl=true,.c (.d (.int .i64 x.len)),[]⟩
  | _=>bad
 | some { desc:= .slice _,.. },.u (.c x)=>toD x fun d=> .ret ⟨d.isSl=true,.c (.d (.int .i64 d.len)),[]⟩
 | some { desc:= .string,.. },.u (.c (.d (.str s)))=>okv (.c (.d (.int .i64 s.size)))
 | _,_=>bad
def evMinMax (mx:Bool):List AV→Rd Out
 | [.u (.c (.d (.int j a))),.u (.c (.d (.int k b)))]=>
  .ret ⟨j=k,.c (.d (.int j (if mx then (if a<b then b else a) else (if b<a then b else a)))),[]⟩
 | _=>bad
def notLab (y:AC) (j:Nat):Prop:=match y with | .own i=>i≠j | _=>True
def evApp (e:TI) (t nm:Nat) (s y:AC) (d:D):Rd Out:=
 match s with
 | .nils=>newLab nm fun k=> .ret ⟨(d.isSl=true∧(d.len≠0→d.stride=e.size))∧d.len*e.bytes≤140737488355328∧d.len≤9223372036854775807,.c (.own k),
  [.lab k (.owned (D.cat (.sl e.size 0 fun _=>[]) d))]⟩
 | .own j=> .lab j fun
  | some (.owned z)=>newLab nm fun k=> .ret ⟨((d.isSl=true∧(d.len≠0→d.stride=e.size))∧z.stride=e.size∧notLab y j)∧(z.len+d.len)*e.bytes≤140737488355328∧z.len+d.len≤9223372036854775807,
   .c (.own k),[.lab j .dead,.lab k (.owned (D.cat z d))]⟩
  | some (.deep z)=>newLab nm fun k=> .ret ⟨(d.isSl=true∧d.len=1∧d.stride=e.size∧nthB d 0=[.nl]∧e.size=1)∧(z.len+1)*e.bytes≤140737488355328∧z.len+1≤9223372036854775807,
   .c (.own k),[.lab j .dead,.lab k (.deep (z.app [.sl t 0 fun _=>[]]))]⟩
  | _=>bad
 | .clp z=>newLab nm fun k=> .ret ⟨((d.isSl=true∧(d.len≠0→d.stride=e.size))∧(z.len≠0→z.stride=e.size)∧d.len≠0)∧(z.len+d.len)*e.bytes≤140737488355328∧z.len+d.len≤9223372036854775807,
  .c (.own k),[.lab k (.owned (if z.len=0 then D.cat (.sl e.size 0 fun _=>[]) d else D.cat z d))]⟩
 | _=>bad
def innSz (ty:Tys) (e:TI):Nat:=
 match e.desc with
 | .slice q=>match ty q with
  | some i=>i.size
  | none=>0
 | _=>0
def evAppend (ty:Tys) (lin:Bool) (nm t:Nat) (s x:AV):Rd Out:=
 match lin,ty t,elemTI ty t,s,x with
 | true,some { desc:= .slice _,.. },some e,.u (.c s),.u (.c y)=>toD y fun d=>evApp e (innSz ty e) nm s y d
 | _,_,_,_,_=>bad
def resCells (lin:Bool) (nm:Nat):Nat→List RC→(Nat→List AC→List (Nat×D)→Rd Out)→Rd Out
 | j,[],f=>f j [] []
 | j,.d x::r,f=>resCells lin nm j r fun j cs ls=>f j (.d x::cs) ls
 | j,.own x::r,f=>
  if lin then newLab (nm+10000*j) fun k=>resCells lin nm (j+1) r fun j cs ls=>f j (.own k::cs) ((k,x)::ls)
  else resCells lin nm j r fun j cs ls=>f j (.d x::cs) ls
def resAU (lin:Bool) (nm:Nat) (j:Nat) (r:RV) (f:Nat→AU→List (Nat×D)→Rd Out):Rd Out:=
 match r with
 | .c x=>resCells lin nm j [x] fun j cs ls=>f j (.c (cs.getD 0 .undef)) ls
 | .agg l=>resCells lin nm j l fun j cs ls=>f j (.agg cs) ls
def resAUs (lin:Bool) (nm:Nat):Nat→List RV→(List AU→List (Nat×D)→Rd Out)→Rd Out
 | _,[],f=>f [] []
 | j,r::rs,f=>resAU lin nm j r fun j x ls=>resAUs lin nm j rs fun xs ls'=>f (x::xs) (ls++ls')
def resAV:List AU→AV
 | [x]=> .u x
 | l=> .tup l
def allCells:List AV→List AC
 | []=>[]
 | .u x::r=>x.cells++allCells r
 | _::r=>allCells r
def noCaps:List Arg→Bool
 | []=>true
 | .clo _ ds::r=>ds.isEmpty && noCaps r
 | .ptr _::_=>false
 | _::r=>noCaps r
def callOut (sp:FSpec) (lin:Bool) (nm:Nat) (caps:List Cap) (as:List Arg) (ws:List Wr):Rd Out:=
 resAUs lin nm 0 (sp.res as) fun xs ls=>
  if lin=true∨ws.length=0 then
   .ret ⟨sp.pre as∧(ls.map (·.1)).Nodup∧(sp.alias=true→noCaps as=true),resAV xs,ws++ls.map fun p=> .lab p.1 (.owned p.2)⟩
  else bad
def evCallF (tb:Fns) (lin:Bool) (nm f:Nat) (caps:List Cap) (args:List AV):Rd Out:=
 match tb f with
 | none=>bad
 | some sp=>toArgs args fun as=>capsDs caps fun ds=>
  if sp.alias then shareLabs (allCells args) fun ws=>callOut sp lin nm caps (as++ds.map .ptr) ws
  else callOut sp lin nm caps (as++ds.map .ptr) []
def bytesOf (x:D):Nat→Option (List UInt8)
 | 0=>some []
 | n+1=>match nthB x n,bytesOf x n with
  | [.int .u8 k],some l=>some (l++[UInt8.ofNat k.toNat])
  | _,_=>none
def evBytes (x:D):Rd Out:=
 match bytesOf x x.len with
 | some l=> .ret ⟨x.isSl=true∧(x.len≠0→x.stride=1),.c (.d (.str ⟨l.toArray⟩)),[]⟩
 | none=>bad
def evFromBytes (ty:Tys) (e dst:Nat) (x:AV):Rd Out:=
 match ty dst,ty e,x with
 | some { desc:= .string,.. },some { desc:= .int .u8,.. },.u (.c y)=>toD y evBytes
 | _,_,_=>bad
def evConvert (ty:Tys) (dst:Nat) (x:AV):Rd Out:=
 match ty dst,x with
 | some { desc:= .string,.. },.u (.c (.d (.str s)))=>okv (.c (.d (.str s)))
 | some { desc:= .int k,.. },.u (.c (.d (.int _ n)))=>okv (.c (.d (.int k (k.wrap n))))
 | _,_=>bad
def capsOf:List AV→Option (List Cap)
 | []=>some []
 | .u (.c (.ref b off))::r=>(capsOf r).map (.ref b off:: ·)
 | .u (.c (.sptr l off))::r=>(capsOf r).map (.sptr l off:: ·)
 | _=>none
def evMakeMap (ty:Tys) (lin:Bool) (nm t:Nat):Rd Out:=
 match lin,ty t with
 | true,some { desc:= .map k _,.. } =>
  match ty k with
  | some { desc:= .string,.. } =>newLab nm fun kk=> .ret ⟨True,.c (.own kk),[.lab kk (.set (.keys (D.ofList 1 [])))]⟩
  | some { desc:= .int .i64,.. } =>newLab nm fun kk=> .ret ⟨True,.c (.own kk),[.lab kk (.set (.tab []))]⟩
  | _=>bad
 | _,_=>bad
def evLookup (ty:Tys) (t:Nat) (x k:AV):Rd Out:=
 match ty t,x,k with
 | some { desc:= .map q e,.. },.u (.c (.own kk)),.u (.c (.d (.str s)))=>
  match ty q,ty e with
  | some { desc:= .string,.. },some { desc:= .bool,zero:=[.bool false],agg:=false,.. } => .lab kk fun
   | some (.set (.keys x))=>okv (.c (.d (.bool (hasD x s))))
   | _=>bad
  | _,_=>bad
 | some { desc:= .map q _,.. },.u (.c (.own kk)),.u (.c (.d (.int .i64 n)))=>
  match ty q with
  | some { desc:= .int .i64,.. } => .lab kk fun
   | some (.set (.tab l))=>match lk l n.toNat with
    | some (b,off,m,s)=> .ret ⟨0≤n,.c (.bsl b off m s),[]⟩
    | none=>bad
   | _=>bad
  | _=>bad
 | _,_,_=>bad
def evMapUpdate (ty:Tys) (t:Nat) (x k v:AV):Rd Out:=
 match ty t,x,k,v with
 | some { desc:= .map q _,.. },.u (.c (.own kk)),.u (.c (.d (.str s))),.u (.c (.d (.bool b)))=>
  match ty q with
  | some { desc:= .string,.. } => .lab kk fun
   | some (.set (.keys x))=> .ret ⟨b=true,default,[.lab kk (.set (.keys (D.cat x (D.ofList 1 [[.str s]]))))]⟩
   | _=>bad
  | _=>bad
 | some { desc:= .map q _,.. },.u (.c (.own kk)),.u (.c (.d (.int .i64 n))),.u (.c (.bsl b off m s))=>
  match ty q with
  | some { desc:= .int .i64,.. } => .lab kk fun
   | some (.set (.tab l))=> .ret ⟨0≤n∧(lk l n.toNat).isNone=true,default,[.lab kk (.set (.tab ((n.toNat,b,off,m,s)::l)))]⟩
   | _=>bad
  | _=>bad
 | _,_,_,_=>bad
def evOp (ty:Tys) (tb:Fns) (lin:Bool) (o:Oper):Rd Out:=
 let nm:=o.dst.getD 0
 match o.op with
 | .move x=>opd x okv
 | .assign x=>opd x okv
 | .pick c a b=>opd c fun c=>opd a fun a=>opd b fun b=>evPick c a b
 | .alloc t=>
  match lin,ty t with
  | true,some i=>newBox nm fun b=> .ret ⟨True,.c (.ref b 0),[.box b (i.zero.map zAC)]⟩
  | _,_=>bad
 | .box _ x=>opd x fun
  | .u v=>if lin then newBox nm fun b=> .ret ⟨v.solid=true,.c (.ref b 0),[.box b v.cells]⟩ else bad
  | _=>bad
 | .build t ps=>opds (ps.toList.map (·.2)) fun vs=>evBuild ty t ((ps.toList.map (·.1)).zip vs)
 | .buildSlice t n ps=>opds (ps.toList.map (·.2)) fun vs=>evBuildSlice ty lin nm t n ((ps.toList.map (·.1)).zip vs)
 | .load t a=>opd a (evLoadH ty lin nm t)
 | .store t a v=>opd a fun a=>opd v fun v=>if lin then evStoreH ty t a v else bad
 | .nilCheck x=>opd x fun v=>match v with
  | .u (.c (.ref _ _)) | .u (.c (.sptr _ _))=>okv v
  | .u (.c (.d (.pt b l)))=> .ret ⟨b=true,.c (.d (.pt b l)),[]⟩
  | _=>bad
 | .binOp op t x y _=>opd x fun x=>opd y fun z=>evBin ty (isConst y) op t x z
 | .unOp op _ x=>opd x fun x=>match op,x with
  | .neg,.u (.c (.d (.int k n)))=>okv (.c (.d (.int k (k.wrap (0 - n)))))
  | .not,.u (.c (.d (.bool b)))=>okv (.c (.d (.bool !b)))
  | _,_=>bad
 | .convert s d x=>match ty s with
  | some { desc:= .slice e,.. } =>opd x (evFromBytes ty e d)
  | some _=>opd x (evConvert ty d)
  | none=>bad
 | .makeFunc (.func f) first caps=>
  match first.toList with
  | []=>opds caps.toList fun vs=>match capsOf vs with
   | some cs=>okv (.c (.clo f cs))
   | none=>bad
  | _=>bad
 | .makeSlice t l c=>opd l fun l=>opd c fun c=>evMakeSlice ty lin nm t l c
 | .slice t x lo hi mx=>opd x fun x=>
  match lo,hi with
  | none,none=>evSlice ty t x none none mx.isSome
  | some l,none=>opd l fun l=>evSlice ty t x (some l) none mx.isSome
  | none,some h=>opd h fun h=>evSlice ty t x none (some h) mx.isSome
  | some l,some h=>opd l fun l=>opd h fun h=>evSlice ty t x (some l) (some h) mx.isSome
 | .fieldAddr s x f=>opd x (evFieldAddr ty s f)
 | .field s x f=>opd x (evField ty s f)
 | .indexAddr t x i=>opd x fun x=>opd i fun i=>evIndexAddr ty t x i
 | .index t x i=>opd x fun x=>opd i fun i=>evIndex ty t x i
 | .extract x i=>opd x fun v=>match v with
  | .tup l=> .ret ⟨i<l.length,.u (l.getD i default),[]⟩
  | _=>bad
 | .call { callee:= .builtin .len,args:=args,argTypes:=ts } =>
  match args.toList,ts.toList with
  | [x],[t]=>opd x (evLen ty t)
  | _,_=>bad
 | .call { callee:= .builtin .append,args:=args,argTypes:=ts } =>
  match args.toList,ts.toList with
  | [s,x],[t,u]=>match ty u with
   | some { desc:= .slice _,.. } =>opd s fun s=>opd x fun x=>evAppend ty lin nm t s x
   | _=>bad
  | _,_=>bad
 | .call { callee:= .builtin .max,args:=args,.. } =>opds args.toList (evMinMax true)
 | .call { callee:= .builtin .min,args:=args,.. } =>opds args.toList (evMinMax false)
 | .call { callee:= .value f,args:=args,.. } =>opd f fun
  | .u (.c (.clo f caps))=>opds args.toList fun vs=>evCallF tb lin nm f caps vs
  | .u (.c (.d (.fn f)))=>opds args.toList fun vs=>evCallF tb lin nm f [] vs
  | _=>bad
 | .sliceToArrayPointer t x=>opd x (evToArr ty t)
 | .makeMap t none=>evMakeMap ty lin nm t
 | .lookup t x k false=>opd x fun x=>opd k fun k=>evLookup ty t x k
 | .mapUpdate t x k v=>opd x fun x=>opd k fun k=>opd v fun v=>if lin then evMapUpdate ty t x k v else bad
 | .insert t x k v=>opd x fun x=>opd k fun k=>opd v fun v=>if lin then evMapUpdate ty t x k v else bad
 | _=>bad
def addObl (p:Prop):Rd Out→Rd Out
 | .ret o=> .ret { o with obl:=p∧o.obl }
 | .slot t k=> .slot t fun v=>addObl p (k v)
 | .box b k=> .box b fun v=>addObl p (k v)
 | .lab l k=> .lab l fun v=>addObl p (k v)
def underC (c:Bool):Rd Out→Rd Out
 | .ret o=>match o.wr,o.dst with
  | [],.u x=> .ret ⟨c=true→o.obl,.cnd c x,[]⟩
  | _,_=>bad
 | .slot t k=> .slot t fun v=>match v with
  | .cnd q x=>addObl (c=true→q=true) (underC c (k (.u x)))
  | v=>underC c (k v)
 | .box b k=> .box b fun v=>underC c (k v)
 | .lab l k=> .lab l fun v=>underC c (k v)
def evPickC (c:Bool) (p a b:AV):Rd Out:=
 match unstrip p,unstrip a,unstrip b with
 | some (.c (.d (.bool p)),o),some (x,q),some (y,r)=>
  match x,y with
  | .c (.d (.bool x)),.c (.d (.bool y))=> .ret ⟨c=true→o=true∧(p=true→q=true)∧(p=false→r=true),.cnd c (.c (.d (.bool (bif p then x else y)))),[]⟩
  | .c (.d (.int j x)),.c (.d (.int k y))=> .ret ⟨c=true→o=true∧(p=true→q=true)∧(p=false→r=true)∧j=k,.cnd c (.c (.d (.int j (bif p then x else y)))),[]⟩
  | _,_=>bad
 | _,_,_=>bad
def underG (c:Bool) (op:Op) (r:Rd Out):Rd Out:=
 match op with
 | .pick p x y=>opd p fun p=>opd x fun x=>opd y fun y=>evPickC c p x y
 | _=>underC c r
def nthD:List (Option Nat)→Nat→Option Nat
 | [],_=>none
 | d::_,0=>d
 | _::r,n+1=>nthD r n
def evGuarded (ty:Tys) (tb:Fns) (ds:List (Option Nat)) (o:Oper):Rd Out:=
 match o.guard with
 | none=>evOp ty tb true o
 | some (j,want)=>
  match nthD ds j with
  | none=>bad
  | some t=> .slot t fun
   | .u (.c (.d (.bool b)))=>underG (b == want) o.op (evOp ty tb false o)
   | .cnd q (.c (.d (.bool b)))=>underG (q && (b == want)) o.op (evOp ty tb false o)
   | _=>bad
end Go.Abs
set_option linter.unusedVariables false
set_option linter.unusedSimpArgs false
namespace Go.Abs
inductive EV where
 | i (n:Int)
 | s (b:ByteArray)
 deriving DecidableEq
def EV.val:EV→Value | .i n=> .int .i64 n | .s b=> .string b
def EV.kind:EV→Bool | .i _=>true | .s _=>false
def evs (l:List EV):Array Value:=(l.map EV.val).toArray
theorem kindsI {xs:List EV} {ks:List Bool} (h:xs.map EV.kind=true::ks):∃ a r,xs= .i a::r∧r.map EV.kind=ks:=by
 cases xs with
 | nil=>cases h
 | cons x r=>cases x with
  | i a=>exact ⟨a,r,rfl,by simpa [EV.kind] using h⟩
  | s b=>simp [EV.kind] at h
theorem kindsN {xs:List EV} (h:xs.map EV.kind=[]):xs=[]:=List.map_eq_nil_iff.1 h
theorem beq_bytes (a b:ByteArray):(a.toList == b.toList)=decide (a=b):=by
 rw [ByteArray.toList_eq,ByteArray.toList_eq]
 by_cases h:a=b
 ·subst h; simp
 ·have:¬ a.data=b.data:=fun e=>h (ByteArray.ext e)
  simp [h,this]
structure EqOk (P:Program) (t:Nat) (ks:List Bool):Prop where
 guard:P.eqGuardType P.depth t=false
 run:∀ (xs ys:List EV) (w:World),xs.map EV.kind=ks→ys.map EV.kind=ks→(Op.equalIn 10000 t (.agg (evs xs)) (.agg (evs ys))).run P w= .ok (decide (xs=ys)) w
structure TyFact (P:Program) (t:Nat) (i:TI):Prop where
 info:∃ info z,P.info? t=some info∧info.size=i.size∧info.bytes=i.bytes∧info.zero=some z∧z.cells.toList=i.zero
 und:P.underlying t=some i.desc
 agg:i.agg=(match i.desc with | .struct _ | .array _ _=>true | _=>false)
 one:i.agg=false→i.size=1
 zlen:i.zero.length=i.size
 eq:∀ n,i.eqn=some n→EqOk P t n
 zi:i.agg=false→∃ info,P.info? t=some info∧info.zero=some (i.zero.headD .nilFunc)
def TyOk (P:Program) (ty:Tys):Prop:=∀ t i,ty t=some i→TyFact P t i
section
variable {P:Program} {t:Nat} {i:TI} (w:World)
theorem TyFact.size_run (h:TyFact P t i):(sizeOf t).run P w= .ok i.size w:=by
 obtain ⟨info,z,h1,h2,_⟩:=h.info
 simp [sizeOf,typeInfo,h1,h2]
theorem TyFact.und_run (h:TyFact P t i):(underlying t).run P w= .ok i.desc w:=run_underlying h.und w
theorem TyFact.agg_run (h:TyFact P t i):(isAgg t).run P w= .ok i.agg w:=by
 have:=h.agg
 unfold isAgg
 rw [Sem.run_bind,h.und_run,Result.andThen_ok,this]
 cases i.desc<;>rfl
theorem TyFact.zero_run (h:TyFact P t i):∃ z,(zeroValue t).run P w= .ok z w∧z.cells.toList=i.zero:=by
 obtain ⟨info,z,h1,h2,h3,h4,h5⟩:=h.info
 exact ⟨z,by simp [zeroValue,typeInfo,h1,h4],h5⟩
end
theorem addr_add (B o n:Nat):(⟨B,o,none⟩:Addr).add n=⟨B,o+n,none⟩:=by
 unfold Addr.add; split<;>simp_all
theorem run_loadVar_agg {P:Program} {t:Nat} {i:TI} (h:TyFact P t i) (ha:i.agg=true) (w:World) (B o:Nat) (f:Nat→Value)
 (hc:∀ j,j<i.size→w.cell? ⟨B,o+j,none⟩=some (f j)):(loadVar t ⟨B,o,none⟩).run P w= .ok (.agg ((List.range i.size).map f).toArray) w:=by
 have hl:=run_loadCells (P:=P) w ⟨B,o,none⟩ i.size f (fun j hj=>by rw [addr_add]; exact hc j hj)
 simp [loadVar,h.agg_run,ha,h.size_run,hl]
theorem run_loadVar_one {P:Program} {t:Nat} {i:TI} (h:TyFact P t i) (ha:i.agg=false) (w:World) (a:Addr) (v:Value)
 (hc:w.cell? a=some v):(loadVar t a).run P w= .ok v w:=by
 simp [loadVar,h.agg_run,ha,hc]
def valOf (st:St):Operand→AV
 | .tmp t=>(lk st.sl t).getD default
 | .const v=>ofValue v
 | .func g=> .c (.clo g [])
 | .global g=> .c (.glob g 0)
theorem run_opd (st:St) (x:Operand) (f:AV→Rd Out):(opd x f).run st=(f (valOf st x)).run st:=by cases x<;>rfl
def valsOf (st:St):List Operand→List AV
 | []=>[]
 | x::r=>valOf st x::valsOf st r
theorem run_opds (st:St) (l:List Operand) (f:List AV→Rd Out):(opds l f).run st=(f (valsOf st l)).run st:=by
 induction l generalizing f with
 | nil=>rfl
 | cons x r ih=>simp only [opds,run_opd,valsOf]; rw [ih]
section
variable {cx:Cx} {st:St} {m:Mp} {a:Act} {w:World}
theorem rcl_zAC (lb:Nat→Option Lab) (v:Value):RCl cx m w lb (zAC v) v:=by
 unfold zAC
 split<;>simp only [RCl]<;>first | constructor | trivial
theorem ra_ofValue (lb:Nat→Option Lab) (v:Value):RA cx m w lb (ofValue v) v:=by
 unfold ofValue
 split
 ·rename_i cs
  refine ⟨cs,rfl,by simp,fun j hj=> ?_⟩
  simp only [List.length_map,Array.length_toList] at hj
  exact ⟨cs[j],by simp [hj],by simpa [hj,List.getD] using rcl_zAC lb cs[j]⟩
 ·exact rcl_zAC lb v
theorem Rel.val (R:Rel cx st m a w) (x:Operand):RA cx m w (lk st.lb) (valOf st x) (a.eval x):=by
 cases x with
 | tmp t=>
  simp only [valOf,Act.eval]
  cases h:lk st.sl t with
  | none=>exact trivial
  | some v=>exact (R.slots t v h).2
 | const v=>exact ra_ofValue _ v
 | func g=>exact ⟨#[],rfl,rfl,fun i hi=>by simp at hi⟩
 | global g=>rfl
theorem load_rel {P:Program} {t:Nat} {i:TI} {lb:Nat→Option Lab} (h:TyFact P t i) {off B o:Nat} {l:List AC} (hobl:((loadD i off l).run st).obl)
 (hc:∀ j,j<l.length→∃ u,w.cell? ⟨B,o+j,none⟩=some u∧RCl cx m w lb (l.getD j .undef) u) :
 ∃ v,(loadVar t ⟨B,o+off,none⟩).run P w= .ok v w∧RA cx m w lb ((loadD i off l).run st).dst v∧((loadD i off l).run st).wr=[]:=by
 unfold loadD at*
 split at hobl
 ·rename_i ha
  simp only [ha,if_true,Rd.run] at hobl ⊢
  have hf:∀ j,j<i.size→∃ u,w.cell? ⟨B,o+off+j,none⟩=some u∧RCl cx m w lb (l.getD (off+j) .undef) u:=fun j hj=>by
   have:=hc (off+j) (by omega)
   rwa [← Nat.add_assoc] at this
  refine ⟨_,run_loadVar_agg h ha w B (o+off) (fun j=>(w.cell? ⟨B,o+off+j,none⟩).getD undef) (fun j hj=> ?_),⟨_,rfl,by simp; omega,fun j hj=> ?_⟩,by trivial⟩
  ·obtain ⟨u,hu,_⟩:=hf j hj
   simp [hu]
  ·simp only [List.length_take,List.length_drop] at hj
   have hj':j<i.size:=by omega
   obtain ⟨u,hu,hr⟩:=hf j hj'
   refine ⟨u,by simp [hj',hu],?_⟩
   have:((l.drop off).take i.size).getD j .undef=l.getD (off+j) .undef:=by
    simp [List.getD_eq_getElem?_getD,hj',List.getElem?_drop]
   rw [this]; exact hr
 ·rename_i ha
  simp only [ha,Rd.run] at hobl ⊢
  obtain ⟨u,hu,hr⟩:=hc off hobl
  exact ⟨u,run_loadVar_one h (by simpa using ha) w _ u hu,hr,rfl⟩
end
end Go.Abs
set_option linter.unusedVariables false
set_option linter.unusedSimpArgs false
namespace Go.Abs
def Good (P:Program) (cx:Cx) (st:St) (a:Act) (w:World) (o:Oper) (out:Out):Prop:=
 ∀ (next:Act→World→Prop) (Q:Exit→Act→World→Prop),
  (∀ v m' w',Rel cx (putAll st out.wr) m' a w'→RA cx m' w' (lk (putAll st out.wr).lb) out.dst v→next (a.put o.dst v) w')→o.wp P a w next Q
section
variable {P:Program} {ty:Tys} {cx:Cx} {st:St} {m m':Mp} {a:Act} {w w':World} {o:Oper} {out:Out}
theorem Good.val {v:Value} (hrun:(execOp a.eval o).run P w= .ok (.value v) w') (R':Rel cx (putAll st out.wr) m' a w')
 (hv:RA cx m' w' (lk (putAll st out.wr).lb) out.dst v):Good P cx st a w o out:=by
 intro next Q h
 unfold Oper.wp
 rw [hrun,Oper.upon_value]
 exact h v m' w' R' hv
theorem Good.skip (hrun:(execOp a.eval o).run P w= .ok .skip w') (R':Rel cx (putAll st out.wr) m' a w') (hd:out.dst=default):Good P cx st a w o out:=by
 intro next Q h
 unfold Oper.wp
 rw [hrun,Oper.upon_skip]
 exact h undef m' w' R' (by rw [hd]; trivial)
theorem lk_memG {α:Type}:∀ {l:List (Nat×α)} {a:Nat} {b:α},lk l a=some b→(a,b)∈l
 | [],_,_,h=>by cases h
 | (x,y)::r,a,b,h=>by
  simp only [lk] at h
  split at h
  ·rename_i e; subst e; obtain rfl:=Option.some.inj h; exact List.mem_cons_self ..
  ·exact List.mem_cons_of_mem _ (lk_memG h)
theorem bad_elim {p:Prop} (h:(bad.run st).obl):p:=h.elim
theorem good_okv {v:AV} {u:Value} (R:Rel cx st m a w) (hrun:(execOp a.eval o).run P w= .ok (.value u) w) (hv:RA cx m w (lk st.lb) v u) :
 Good P cx st a w o ((okv v).run st):=Good.val (m':=m) hrun R hv
theorem good_move (R:Rel cx st m a w) {x:Operand} (ho:o.op= .move x∨o.op= .assign x):Good P cx st a w o ((okv (valOf st x)).run st):=by
 refine good_okv R (u:=a.eval x) ?_ (R.val x)
 rcases ho with ho | ho<;>simp [execOp,ho]
theorem evLoad_val (hty:TyOk P ty) (R:Rel cx st m a w) {t:Nat} {av:AV} {u:Value} (hx:RA cx m w (lk st.lb) av u) (hobl:((evLoad ty t av).run st).obl) :
 ∃ b v,u= .pointer (some b)∧(loadVar t b).run P w= .ok v w∧RA cx m w (lk st.lb) ((evLoad ty t av).run st).dst v∧((evLoad ty t av).run st).wr=[]:=by
 revert hobl
 unfold evLoad
 split
 ·rename_i i b off hi
  simp only [Rd.run]
  split
  ·rename_i cs hb
   intro hobl
   obtain ⟨B,hB,hp⟩:=hx
   obtain ⟨B',c,T,h1,h2,h3,h4⟩:=R.boxes b cs hb
   obtain rfl:B=B':=Option.some.inj (hB.symm.trans h1)
   obtain ⟨v,hv,hr,hw⟩:=load_rel (P:=P) (cx:=cx) (st:=st) (m:=m) (w:=w) (lb:=lk st.lb) (hty t i hi) (B:=B) (o:=0) hobl (fun j hj=>by
    obtain ⟨u,hu,hr⟩:=h4 j hj
    exact ⟨u,by simp [World.cell?,h2,hu],hr⟩)
   rw [Nat.zero_add] at hv
   exact ⟨_,v,hp,hv,hr,hw⟩
  ·exact bad_elim
 ·rename_i i k j off hi
  have key:∀ x:D,(∃ B o,u= .pointer (some ⟨B,o+off,none⟩)∧∀ q,q<(x.nth j).length→∃ u,w.cell? ⟨B,o+q,none⟩=some u∧RD w (Sof cx m) ((x.nth j).getD q .undef) u)→
   ((loadD i off ((x.nth j).map .d)).run st).obl→∃ b v,u= .pointer (some b)∧(loadVar t b).run P w= .ok v w∧RA cx m w (lk st.lb) ((loadD i off ((x.nth j).map .d)).run st).dst v∧((loadD i off ((x.nth j).map .d)).run st).wr=[]:=by
   intro x ⟨B,o',hp,hc⟩ hobl
   obtain ⟨v,hv,hr,hw⟩:=load_rel (P:=P) (cx:=cx) (st:=st) (m:=m) (w:=w) (lb:=lk st.lb) (hty t i hi) (B:=B) (o:=o') hobl (fun q hq=>by
    simp only [List.length_map] at hq
    obtain ⟨u,hu,hr⟩:=hc q hq
    refine ⟨u,hu,?_⟩
    have e:((x.nth j).map AC.d).getD q .undef= .d ((x.nth j).getD q .undef):=by simp [List.getD_eq_getElem?_getD,hq]
    rw [e]; exact hr)
   exact ⟨_,v,hp,hv,hr,hw⟩
  simp only [Rd.run]
  simp only [RA,RU,RCl] at hx
  split
  ·rename_i y hl
   simp only [hl] at hx
   obtain ⟨hj,B,hB,hp⟩:=hx
   obtain ⟨hsl,hrow⟩:=R.owned k y hl
   obtain ⟨c,T,hc,_,hy⟩:=hrow B hB
   refine key y ⟨B,j*y.stride,hp,fun q hq=> ?_⟩
   rw [(hy j hj).1] at hq
   obtain ⟨u,hu,hd⟩:=(hy j hj).2 q hq
   exact ⟨u,by simp [World.cell?,hc,hu],hd⟩
  ·rename_i y hl
   simp only [hl] at hx
   obtain ⟨hj,hlen,B,o',hp,hB,hS,hc⟩:=hx
   exact key y ⟨B,o',hp,hc⟩
  ·exact bad_elim
 ·rename_i i l off hi
  intro hobl
  obtain ⟨B,o',hp,hB,hS,hc⟩:=hx
  obtain ⟨v,hv,hr,hw⟩:=load_rel (P:=P) (cx:=cx) (st:=st) (m:=m) (w:=w) (lb:=lk st.lb) (hty t i hi) (B:=B) (o:=o') hobl (fun q hq=>by
   simp only [List.length_map] at hq
   obtain ⟨u,hu,hr⟩:=hc q hq
   refine ⟨u,hu,?_⟩
   have e:(l.map AC.d).getD q .undef= .d (l.getD q .undef):=by simp [List.getD_eq_getElem?_getD,hq]
   rw [e]; exact hr)
  exact ⟨_,v,hp,hv,hr,hw⟩
 ·rename_i i b l hi
  intro hobl
  have hb:b=true∧((loadD i 0 (l.map .d)).run st).obl∧((loadP i b l).run st).dst=((loadD i 0 (l.map .d)).run st).dst∧((loadP i b l).run st).wr=[]:=by
   unfold loadP at hobl ⊢
   unfold loadD
   split at hobl<;>rename_i hq<;>simp only [hq,if_true,if_false,Bool.false_eq_true,Rd.run] at hobl ⊢ <;>exact ⟨hobl.1,hobl.2,by trivial,by trivial⟩
  obtain ⟨rfl,h1,h2,h3⟩:=hb
  obtain ⟨B,o',hp,hB,hS,hc⟩:=rd_pt.1 hx
  obtain ⟨v,hv,hr,hw⟩:=load_rel (P:=P) (cx:=cx) (st:=st) (m:=m) (w:=w) (lb:=lk st.lb) (hty t i hi) (B:=B) (o:=o') h1 (fun q hq=>by
   simp only [List.length_map] at hq
   obtain ⟨u,hu,hr⟩:=hc q hq
   refine ⟨u,hu,?_⟩
   have e:(l.map AC.d).getD q .undef= .d (l.getD q .undef):=by simp [List.getD_eq_getElem?_getD,hq]
   rw [e]; exact hr)
  exact ⟨_,v,hp,hv,by rw [h2]; exact hr,h3⟩
 ·rename_i i g off hi
  unfold loadG
  split
  ·rename_i l ha hg
   intro hobl
   simp only [Rd.run] at hobl ⊢
   obtain ⟨c,T,h1,h2⟩:=cx.glob.1 g l (lk_memG hg)
   have h3:w.heap[g]? =some (.cells c T (0,0)):=by rw [R.old g (Array.getElem?_eq_some_iff.1 h1).1]; exact h1
   exact ⟨_,_,hx,run_loadVar_one (hty t i hi) ha w _ _ (by simp only [World.cell?,h3]; exact h2 off hobl),.int _ _,by trivial⟩
  ·split
   ·rename_i l hg
    intro hobl
    obtain ⟨c,T,z,h1,h2⟩:=cx.glob.2 g (strP l) (by
     refine List.mem_append_right _ (List.mem_map.2 ⟨(g,l),lk_memG hg,rfl⟩))
    have h3:w.heap[g]? =some (.cells c T z):=by rw [R.old g (Array.getElem?_eq_some_iff.1 h1).1]; exact h1
    obtain ⟨v,hv,hr,hw⟩:=load_rel (P:=P) (cx:=cx) (st:=st) (m:=m) (w:=w) (lb:=lk st.lb) (hty t i hi) (B:=g) (o:=0) hobl (fun q hq=>by
     simp only [List.length_map] at hq
     refine ⟨.string (l.getD q .empty),by simp only [World.cell?,h3,Nat.zero_add]; exact h2 q hq,?_⟩
     have e:(l.map fun s=>AC.d (.str s)).getD q .undef= .d (.str (l.getD q .empty)):=by simp [List.getD_eq_getElem?_getD,hq]
     rw [e]; exact RD.str _)
    exact ⟨_,v,by rw [Nat.zero_add] at hv; exact hx,by rw [Nat.zero_add] at hv; exact hv,hr,hw⟩
   ·exact bad_elim
 ·exact bad_elim
theorem good_load (hty:TyOk P ty) (R:Rel cx st m a w) {t:Nat} {x:Operand} (ho:o.op= .load t x) (hobl:((evLoad ty t (valOf st x)).run st).obl) :
 Good P cx st a w o ((evLoad ty t (valOf st x)).run st):=by
 obtain ⟨b,v,hp,hv,hr,hw⟩:=evLoad_val (P:=P) hty R (R.val x) hobl
 refine Good.val (m':=m) (w':=w) (v:=v) ?_ (by rw [hw]; exact R) (by rw [hw]; exact hr)
 simp [execOp,ho,Instr.loadAt,Instr.sureAddr,hp,hv]
theorem run_newBoxN (st:St) (f:Nat→Rd Out):∀ (n nm:Nat),
 (∃ b,lk st.bx b=none∧(newBoxN n nm f).run st=(f b).run st)∨(newBoxN n nm f).run st=⟨False,default,[]⟩
 | 0,_=> .inr rfl
 | n+1,nm=>by
  simp only [newBoxN,Rd.run]
  split
  ·rename_i h; exact .inl ⟨_,h,rfl⟩
  ·exact run_newBoxN st f n _
theorem run_newBox (st:St) (nm:Nat) (f:Nat→Rd Out) :
 (∃ b,lk st.bx b=none∧(newBox nm f).run st=(f b).run st)∨(newBox nm f).run st=⟨False,default,[]⟩:=run_newBoxN st f 8 nm
theorem run_newLabN (st:St) (f:Nat→Rd Out):∀ (n nm:Nat),
 (∃ b,lk st.lb b=none∧(newLabN n nm f).run st=(f b).run st)∨(newLabN n nm f).run st=⟨False,default,[]⟩
 | 0,_=> .inr rfl
 | n+1,nm=>by
  simp only [newLabN,Rd.run]
  split
  ·rename_i h; exact .inl ⟨_,h,rfl⟩
  ·exact run_newLabN st f n _
theorem run_newLab (st:St) (nm:Nat) (f:Nat→Rd Out) :
 (∃ b,lk st.lb b=none∧(newLab nm f).run st=(f b).run st)∨(newLab nm f).run st=⟨False,default,[]⟩:=run_newLabN st f 8 nm
theorem good_loadH (hty:TyOk P ty) (R:Rel cx st m a w) {lin:Bool} {nm t:Nat} {x:Operand} (ho:o.op= .load t x) (hobl:((evLoadH ty lin nm t (valOf st x)).run st).obl) :
 Good P cx st a w o ((evLoadH ty lin nm t (valOf st x)).run st):=by
 have hx:=R.val x
 have hl0:((evLoad ty t (valOf st x)).run st).obl→Good P cx st a w o ((evLoad ty t (valOf st x)).run st):=fun h=>good_load hty R ho h
 generalize valOf st x=ax at*
 revert hobl
 unfold evLoadH
 split
 ·rename_i k j off
  simp only [Rd.run]
  split
  ·rename_i z hk
   split
   ·rename_i i hi
    rcases run_newLab st nm (fun kk=> .ret ⟨i.agg=false∧off=0∧j<z.len∧(yd z j).isSl=true,.c (.own kk),[.lab k (.deep (z.setAt j 0 [.undef])),.lab kk (.owned (yd z j))]⟩) with ⟨kk,hkk,k2⟩ | k2
    ·rw [k2]
     intro hobl
     simp only [Rd.run] at hobl ⊢
     obtain ⟨ha,rfl,hj,hy⟩:=hobl
     simp only [RA,RU,RCl,hk] at hx
     obtain ⟨_,B,hB,hp⟩:=hx
     obtain ⟨d1,d2,d3⟩:=R.deeps.ok k z hk
     rcases (d3 j hj).2 with ⟨q1,_⟩ | ⟨_,⟨B',u,q2,q3,q4⟩,_⟩
     ·exact (undef_sl q1 hy).elim
     rw [hB] at q2; cases q2
     rw [d2,Nat.mul_one,Nat.add_zero] at hp
     have hrun:(loadVar t ⟨B,j,none⟩).run P w= .ok u w:=run_loadVar_one (hty t i hi) ha w _ _ q3
     refine Good.val (w':=w) (v:=u) ?_ (R.moveOut hk hkk hj hy) ?_
     ·simp [execOp,ho,Instr.loadAt,Instr.sureAddr,hp,hrun]
     ·simp only [RA,RU,RCl,putAll,Wr.put,lk_same,upd_same]; exact q4
    ·rw [k2]; exact fun h=>h.elim
   ·exact bad_elim
  ·exact hl0
 ·exact hl0
theorem rcl_one {lb:Nat→Option Lab} {x:AC} {v:Value} (hs:x.solid=true) (h:RCl cx m w lb x v):One v:=by
 cases x with
 | undef=>simp [AC.solid] at hs
 | d x=>exact RD.one h
 | nils=>obtain rfl:=h; exact ⟨rfl,rfl⟩
 | own k=>
  simp only [RCl] at h
  split at h
  ·exact h.elim
  ·exact h
  ·exact rd_sl_one h.1 h.2
  ·exact hdl_one h
  ·exact hdl_one h
  ·obtain ⟨B,_,rfl⟩:=h; exact ⟨rfl,rfl⟩
 | ref b off=>obtain ⟨B,_,rfl⟩:=h; exact ⟨rfl,rfl⟩
 | optr k i off=>
  simp only [RCl] at h
  split at h
  ·exact h.elim
  ·exact h
  ·obtain ⟨_,_,B,o,rfl,_⟩:=h; exact ⟨rfl,rfl⟩
  ·obtain ⟨_,B,_,rfl⟩:=h; exact ⟨rfl,rfl⟩
  ·obtain ⟨_,B,_,rfl⟩:=h; exact ⟨rfl,rfl⟩
  ·exact h.elim
 | sptr l off=>obtain ⟨B,o,rfl,_⟩:=h; exact ⟨rfl,rfl⟩
 | clo f caps=>obtain ⟨vs,rfl,_⟩:=h; exact ⟨rfl,rfl⟩
 | yld l=>obtain rfl:=h; exact ⟨rfl,rfl⟩
 | clp x=>obtain ⟨_,_,b,rfl⟩:=h; exact ⟨rfl,rfl⟩
 | glob g off=>obtain rfl:=h; exact ⟨rfl,rfl⟩
 | bsl b off n s=>obtain ⟨B,cap,_,_,rfl⟩:=h; exact ⟨rfl,rfl⟩
 | bnd f l=>obtain ⟨us,rfl,_⟩:=h; exact ⟨rfl,rfl⟩
theorem ru_cells {lb:Nat→Option Lab} {x:AU} {v:Value} (hs:x.solid=true) (h:RU cx m w lb x v) :
 v.cells.size=x.cells.length∧∀ j,j<x.cells.length→∃ u,v.cells[j]? =some u∧RCl cx m w lb (x.cells.getD j .undef) u:=by
 cases x with
 | c x=>
  rw [(rcl_one hs h).1]
  refine ⟨rfl,fun j hj=> ?_⟩
  simp only [AU.cells,List.length_singleton] at hj
  obtain rfl:j=0:=by omega
  exact ⟨v,rfl,h⟩
 | agg l=>obtain ⟨vs,rfl,hsz,hc⟩:=h; exact ⟨hsz,hc⟩
theorem good_box (R:Rel cx st m a w) {t:Nat} {x:Operand} {nm:Nat} {v:AU} (ho:o.op= .box t x) (hx:RU cx m w (lk st.lb) v (a.eval x)) (hobl:((newBox nm fun b=> .ret ⟨v.solid=true,.c (.ref b 0),[.box b v.cells]⟩).run st).obl) :
 Good P cx st a w o ((newBox nm fun b=> .ret ⟨v.solid=true,.c (.ref b 0),[.box b v.cells]⟩).run st):=by
 rcases run_newBox st nm (fun b=> .ret ⟨v.solid=true,.c (.ref b 0),[.box b v.cells]⟩) with ⟨b,hb,h⟩ | h
 ·rw [h] at hobl ⊢
  simp only [Rd.run] at hobl ⊢
  obtain ⟨h1,h2⟩:=ru_cells hobl hx
  refine Good.val (m':=⟨m.own,upd m.box b (some w.heap.size),m.inn,m.mp⟩) (w':= { w with heap:=w.heap.push (.cells (a.eval x).cells t (0,0)) }) (v:= .pointer (some ⟨w.heap.size,0,none⟩)) ?_ ?_ ?_
  ·simp [execOp,ho,Instr.box,newVar,newRow]
  ·exact R.newBox hb h1 h2
  ·exact ⟨w.heap.size,upd_same _ _ _,rfl⟩
 ·rw [h] at hobl; exact hobl.elim
theorem good_alloc (hty:TyOk P ty) (R:Rel cx st m a w) {t nm:Nat} {i:TI} (ho:o.op= .alloc t) (hi:ty t=some i)
 (hobl:((newBox nm fun b=> .ret ⟨True,.c (.ref b 0),[.box b (i.zero.map zAC)]⟩).run st).obl) :
 Good P cx st a w o ((newBox nm fun b=> .ret ⟨True,.c (.ref b 0),[.box b (i.zero.map zAC)]⟩).run st):=by
 rcases run_newBox st nm (fun b=> .ret ⟨True,.c (.ref b 0),[.box b (i.zero.map zAC)]⟩) with ⟨b,hb,h⟩ | h
 ·rw [h] at hobl ⊢
  simp only [Rd.run] at hobl ⊢
  obtain ⟨z,hz,hzc⟩:=(hty t i hi).zero_run w
  refine Good.val (m':=⟨m.own,upd m.box b (some w.heap.size),m.inn,m.mp⟩) (w':= { w with heap:=w.heap.push (.cells z.cells t (0,0)) }) (v:= .pointer (some ⟨w.heap.size,0,none⟩)) ?_ ?_ ?_
  ·simp [execOp,ho,Instr.alloc,hz,newVar,newRow]
  ·refine R.newBox hb (by rw [← hzc]; simp) (fun j hj=> ?_)
   rw [← hzc] at hj ⊢
   simp only [List.length_map,Array.length_toList] at hj
   exact ⟨z.cells[j],by simp [hj],by simpa [hj,List.getD_eq_getElem?_getD] using rcl_zAC (lk st.lb) z.cells[j]⟩
  ·exact ⟨w.heap.size,upd_same _ _ _,rfl⟩
 ·rw [h] at hobl; exact hobl.elim
end
end Go.Abs
set_option linter.unusedVariables false
set_option linter.unusedSimpArgs false
namespace Go.Abs
theorem splice_getElem? {α:Type} (l:List α) (o:Nat) (ys:List α) (h:o+ys.length≤l.length) (j:Nat) :
 (splice l o ys)[j]? =if o≤j∧j<o+ys.length then ys[j - o]? else l[j]? :=by
 unfold splice
 by_cases h1:j<o
 ·rw [if_neg (by omega),List.append_assoc,List.getElem?_append_left (by simp; omega),List.getElem?_take,if_pos h1]
 ·by_cases h2:j<o+ys.length
  ·rw [if_pos (by omega),List.append_assoc,List.getElem?_append_right (by simp; omega),List.getElem?_append_left (by simp; omega)]
   congr 1; simp; omega
  ·rw [if_neg (by omega),List.getElem?_append_right (by simp; omega),List.getElem?_drop]
   congr 1; simp; omega
theorem splice_length {α:Type} (l:List α) (o:Nat) (ys:List α) (h:o+ys.length≤l.length):(splice l o ys).length=l.length:=by
 simp [splice]; omega
structure Stored (w w':World) (B:Nat) (c c':Array Value) (T:TypeId) (o:Nat) (vs:List Value):Prop where
 env:SameEnv w w'
 size:w'.heap.size=w.heap.size
 other:∀ B',B'≠B→w'.heap[B']? =w.heap[B']?
 row:w'.heap[B]? =some (.cells c' T (0,0))
 len:c'.size=c.size
 get:∀ j,c'[j]? =if o≤j∧j<o+vs.length then vs[j - o]? else c[j]?
theorem run_storeCells {P:Program} (B o:Nat) (T:TypeId) (vs:List Value):∀ (w:World) (c:Array Value) (i:Nat),w.heap[B]? =some (.cells c T (0,0))→(∀ v∈vs,One v)→o+i+vs.length≤c.size→
 ∃ w' c',(storeCells ⟨B,o,none⟩ vs i).run P w= .ok () w'∧Stored w w' B c c' T (o+i) vs:=by
 induction vs with
 | nil=>
  intro w c i hc _ _
  exact ⟨w,c,rfl,.refl _,rfl,fun _ _=>rfl,hc,rfl,fun j=>by simp; omega⟩
 | cons v vs ih=>
  intro w c i hc hv hle
  simp only [List.length_cons] at hle
  have h1:(store ((⟨B,o,none⟩:Addr).add i) v).run P w= .ok () (w.setCell ⟨B,o+i,none⟩ v):=by
   rw [addr_add,run_store P w _ v _ (hv v (by simp)).2]
   have e1:w.cell? ⟨B,o+i,none⟩=some c[o+i]:=by simp [World.cell?,hc]
   have e2:w.frozen? ⟨B,o+i,none⟩=false:=by simp [World.frozen?,hc]
   simp [e1,e2]
  have hh:(w.setCell ⟨B,o+i,none⟩ v).heap[B]? =some (.cells (c.setIfInBounds (o+i) v) T (0,0)):=by
   simp [World.setCell,Array.getElem?_modify,hc]
  obtain ⟨w',c',hr,s⟩:=ih (w.setCell ⟨B,o+i,none⟩ v) (c.setIfInBounds (o+i) v) (i+1) hh (fun u hu=>hv u (by simp [hu])) (by simp; omega)
  refine ⟨w',c',?_,⟨?_,?_,fun B' hB'=> ?_,s.row,?_,fun j=> ?_⟩⟩
  ·simp only [storeCells,Sem.run_bind,h1,Result.andThen_ok,hr]
  ·exact SameEnv.trans ⟨rfl,rfl,rfl⟩ s.env
  ·rw [s.size]; simp [World.setCell]
  ·rw [s.other B' hB']; simp [World.setCell,Array.getElem?_modify,Ne.symm hB']
  ·rw [s.len]; simp
  ·rw [s.get j]
   simp only [List.length_cons]
   by_cases hj:j=o+i
   ·subst hj
    rw [if_neg (by omega),if_pos (by omega)]
    simp [show o+i<c.size by omega]
   ·by_cases h2:o+(i+1)≤j∧j<o+(i+1)+vs.length
    ·rw [if_pos h2,if_pos (by omega),show j - (o+i)=(j - (o+(i+1)))+1 by omega,List.getElem?_cons_succ]
    ·rw [if_neg h2,if_neg (by omega),Array.getElem?_setIfInBounds_ne (by omega)]
section
variable {P:Program} {ty:Tys} {cx:Cx} {st:St} {m m':Mp} {a:Act} {w w':World} {o:Oper} {out:Out}
theorem ru_one {lb:Nat→Option Lab} {x:AU} {v:Value} (hs:x.solid=true) (h:RU cx m w lb x v):∀ u∈v.cells.toList,One u:=by
 intro u hu
 obtain ⟨j,hj,rfl⟩:=List.getElem_of_mem hu
 simp only [Array.length_toList] at hj
 obtain ⟨h1,h2⟩:=ru_cells hs h
 obtain ⟨u,hu2,hr⟩:=h2 j (by omega)
 have e:v.cells.toList[j]=u:=by simpa [hj] using hu2
 rw [e]
 refine rcl_one ?_ hr
 cases x with
 | c x=>
  simp only [AU.cells,List.length_singleton] at h1
  obtain rfl:j=0:=by omega
  exact hs
 | agg l=>
  simp only [AU.cells] at*
  simp only [AU.solid,List.all_eq_true] at hs
  rw [List.getD_eq_getElem?_getD,List.getElem?_eq_getElem (by omega)]
  exact hs _ (List.getElem_mem _)
theorem good_store_run {t:Nat} {i:TI} {x y:Operand} (hty:TyFact P t i) (ho:o.op= .store t x y) {B off:Nat} {T:TypeId} {c:Array Value} (hp:a.eval x= .pointer (some ⟨B,off,none⟩))
 (hc:w.heap[B]? =some (.cells c T (0,0))) (hsz:(a.eval y).cells.size=i.size) (hone:∀ v∈(a.eval y).cells.toList,One v) (hle:off+i.size≤c.size) :
 ∃ w' c',(execOp a.eval o).run P w= .ok .skip w'∧Stored w w' B c c' T off (a.eval y).cells.toList:=by
 obtain ⟨w',c',hr,s⟩:=run_storeCells (P:=P) B off T (a.eval y).cells.toList w c 0 hc hone (by simp; omega)
 refine ⟨w',c',?_,by simpa using s⟩
 have h1:(storeVar t ⟨B,off,none⟩ (a.eval y)).run P w= .ok () w':=by
  simp [storeVar,hty.size_run,hsz,hr]
 simp [execOp,ho,Instr.storeAt,Instr.sureAddr,hp,h1]
theorem rcl_fn {lb:Nat→Option Lab} {g:Nat} {v:Value} (hx:RCl cx m w lb (.clo g []) v):v= .func (.func g) #[] #[]:=by
 obtain ⟨vs,rfl,hsz,_⟩:=hx
 obtain rfl:vs= #[]:=Array.eq_empty_of_size_eq_zero (by simpa using hsz)
 rfl
theorem rcl_plain {lb:Nat→Option Lab} {x:AC} {d:D} {v:Value} (h:plainD x=some d) (hx:RCl cx m w lb x v):RD w (Sof cx m) d v:=by
 cases x with
 | d y=>obtain rfl:=Option.some.inj h; exact hx
 | nils=>obtain rfl:=Option.some.inj h; obtain rfl:=hx; exact .sl0 _ _ _ _
 | clo g caps=>
  cases caps with
  | nil=>
   obtain rfl:=Option.some.inj h
   rw [rcl_fn hx]; exact .fn g
  | cons _ _=>cases h
 | _=>cases h
theorem plainDs_get {l:List AC} {ds:List D} (h:plainDs l=some ds):ds.length=l.length∧∀ j,j<l.length→plainD (l.getD j .undef)=some (ds.getD j .undef):=by
 induction l generalizing ds with
 | nil=>simp [plainDs] at h; subst h; simp
 | cons x r ih=>
  simp only [plainDs] at h
  split at h
  ·rename_i d ds' h1 h2
   obtain rfl:=Option.some.inj h
   obtain ⟨e1,e2⟩:=ih h2
   refine ⟨by simp [e1],fun j hj=> ?_⟩
   cases j with
   | zero=>simpa using h1
   | succ j=>simpa using e2 j (by simpa using hj)
  ·cases h
theorem D.setAt_len (x:D) (i o:Nat) (c:List D):(x.setAt i o c).len=x.len:=rfl
theorem D.setAt_stride (x:D) (i o:Nat) (c:List D):(x.setAt i o c).stride=x.stride:=rfl
theorem good_store (hty:TyOk P ty) (R:Rel cx st m a w) {t:Nat} {x y:Operand} (ho:o.op= .store t x y) (hobl:((evStore ty t (valOf st x) (valOf st y)).run st).obl) :
 Good P cx st a w o ((evStore ty t (valOf st x) (valOf st y)).run st):=by
 have hx:=R.val x
 have hy:=R.val y
 generalize valOf st x=ax at*
 generalize valOf st y=ay at*
 revert hobl
 unfold evStore
 split
 ·rename_i i v hi
  split
  ·rename_i b off
   simp only [Rd.run]
   split
   ·rename_i cs hb
    intro hobl
    simp only [Rd.run] at hobl ⊢
    obtain ⟨e1,e2,e3⟩:=hobl
    obtain ⟨B,hB,hp⟩:=hx
    obtain ⟨B',c,T,h1,h2,h3,h4⟩:=R.boxes b cs hb
    obtain rfl:B=B':=Option.some.inj (hB.symm.trans h1)
    obtain ⟨g1,g2⟩:=ru_cells e2 hy
    obtain ⟨w',c',hr,s⟩:=good_store_run (hty t i hi) ho hp h2 (by rw [g1,e1]) (ru_one e2 hy) (by rw [h3]; omega)
    have hlen:(a.eval y).cells.toList.length=v.cells.length:=by simpa using g1
    refine Good.skip (m':=m) hr ?_ rfl
    refine R.turnBox hB s.env s.size s.other s.row (by rw [s.len,h3,splice_length _ _ _ e3]) (fun j hj=> ?_)
    rw [splice_length _ _ _ e3] at hj
    rw [s.get j,List.getD_eq_getElem?_getD,splice_getElem? _ _ _ e3,hlen]
    by_cases hin:off≤j∧j<off+v.cells.length
    ·rw [if_pos hin,if_pos hin]
     obtain ⟨u,hu,hr⟩:=g2 (j - off) (by omega)
     refine ⟨u,by simpa using hu,?_⟩
     rw [← List.getD_eq_getElem?_getD]; exact hr
    ·rw [if_neg hin,if_neg hin, ← List.getD_eq_getElem?_getD]
     exact h4 j hj
   ·exact bad_elim
  ·rename_i k j off
   simp only [Rd.run]
   split
   ·rename_i z hl
    split
    ·rename_i ds hds
     intro hobl
     simp only [Rd.run] at hobl ⊢
     obtain ⟨e1,e2,e3⟩:=hobl
     simp only [RA,RU,RCl,hl] at hx
     obtain ⟨hj,B,hB,hp⟩:=hx
     obtain ⟨hsl,hrow⟩:=R.owned k z hl
     obtain ⟨c,T,hc,_,hz⟩:=hrow B hB
     obtain ⟨g1,g2⟩:=ru_cells e2 hy
     obtain ⟨p1,p2⟩:=plainDs_get hds
     have hcsz:j*z.stride+z.stride≤c.size:=by
      by_cases h0:z.stride=0
      ·simp only [h0,Nat.le_zero,Nat.add_eq_zero_iff] at e3
       have:v.cells.length=0:=e3.2
       cases v with
       | c x=>simp [AU.cells] at this
       | agg l=>simp only [h0]; omega
      ·obtain ⟨u,hu,_⟩:=(hz j hj).2 (z.stride - 1) (by omega)
       have:=(Array.getElem?_eq_some_iff.1 hu).1
       omega
     obtain ⟨w',c',hr,s⟩:=good_store_run (hty t i hi) ho hp hc (by rw [g1,e1]) (ru_one e2 hy) (by omega)
     have hlen:(a.eval y).cells.toList.length=v.cells.length:=by simpa using g1
     refine Good.skip (m':=m) hr ?_ rfl
     have hS:∀ B',B'<w.heap.size→Sof cx m B'→B'≠B:=fun B' _ h e=>by subst e; exact h.2.1 k hB
     have hext:Ext w w' (Sof cx m) (Sof cx m):=⟨by rw [s.size]; exact Nat.le_refl _,fun B' h1 h2=>s.other B' (hS B' h1 h2),fun _ _ h=>h⟩
     refine R.turnOwn hB hl (x':=z.setAt j off ds) rfl rfl rfl s.env s.size s.other (fun c2 T2 h2=> ?_) ?_
     ·rw [hc] at h2
      obtain ⟨rfl,rfl⟩:=by simpa using h2
      exact ⟨c',s.row,s.len⟩
     ·refine ⟨c',T,s.row,rfl,fun q hq=> ?_⟩
      have hq':q<z.len:=hq
      have hz':=hz q hq'
      simp only [D.setAt_stride]
      have enth:(z.setAt j off ds).nth q=if q=j then splice (z.nth j) off ds else z.nth q:=rfl
      rw [enth]
      have e3':off+ds.length≤(z.nth j).length:=by rw [p1,(hz j hj).1]; exact e3
      by_cases hqj:q=j
      ·subst hqj
       rw [if_pos rfl]
       refine ⟨by rw [splice_length _ _ _ e3',(hz q hq').1],fun r hr=> ?_⟩
       rw [s.get,List.getD_eq_getElem?_getD,splice_getElem? _ _ _ e3',hlen,p1]
       by_cases hin:off≤r∧r<off+v.cells.length
       ·rw [if_pos (by omega),if_pos hin]
        obtain ⟨u,hu,hr2⟩:=g2 (r - off) (by omega)
        refine ⟨u,by simpa [show q*z.stride+r - (q*z.stride+off)=r - off by omega] using hu,?_⟩
        have:=rcl_plain (p2 (r - off) (by omega)) hr2
        rw [← List.getD_eq_getElem?_getD]; exact this.ext hext
       ·rw [if_neg (by omega),if_neg hin, ← List.getD_eq_getElem?_getD]
        obtain ⟨u,hu,hd⟩:=hz'.2 r hr
        exact ⟨u,hu,hd.ext hext⟩
      ·rw [if_neg hqj]
       refine ⟨hz'.1,fun r hr=> ?_⟩
       obtain ⟨u,hu,hd⟩:=hz'.2 r hr
       refine ⟨u,?_,hd.ext hext⟩
       rw [s.get,hlen,if_neg,hu]
       intro hin
       rcases Nat.lt_or_gt_of_ne hqj with hlt | hgt
       ·have:(q+1)*z.stride≤j*z.stride:=Nat.mul_le_mul_right _ hlt
        rw [Nat.add_mul] at this; omega
       ·have:(j+1)*z.stride≤q*z.stride:=Nat.mul_le_mul_right _ hgt
        rw [Nat.add_mul] at this; omega
    ·exact bad_elim
   ·exact bad_elim
  ·exact bad_elim
 ·exact bad_elim
theorem fieldOff_fact (hty:TyOk P ty) {s f o':Nat} {i:TI} (h:fieldOff ty s f=some (o',i)) :
 ∃ fs fd,P.underlying s=some (.struct fs)∧fs[f]? =some fd∧fd.offset=o'∧TyFact P fd.type i∧i.size≠0:=by
 unfold fieldOff at h
 split at h
 ·rename_i sz by' ag ze fs en hs
  have hS:=hty _ _ hs
  split at h
  ·rename_i fd hfd
   split at h
   ·rename_i i' hi'
    split at h
    ·cases h
    ·rename_i hne
     obtain ⟨rfl,rfl⟩:=by simpa using h
     exact ⟨fs,fd,hS.und,by simpa using hfd,rfl,hty _ _ hi',hne⟩
   ·cases h
  ·cases h
 ·cases h
theorem good_fieldAddr (hty:TyOk P ty) (R:Rel cx st m a w) {s f:Nat} {x:Operand} (ho:o.op= .fieldAddr s x f) (hobl:((evFieldAddr ty s f (valOf st x)).run st).obl) :
 Good P cx st a w o ((evFieldAddr ty s f (valOf st x)).run st):=by
 have hx:=R.val x
 generalize valOf st x=av at*
 revert hobl
 unfold evFieldAddr
 have key:∀ {o':Nat} {i:TI} {B q:Nat},fieldOff ty s f=some (o',i)→a.eval x= .pointer (some ⟨B,q,none⟩)→(execOp a.eval o).run P w= .ok (.value (.pointer (some ⟨B,q+o',none⟩))) w:=by
  intro o' i B q h hp
  obtain ⟨fs,fd,h1,h2,rfl,h4,h5⟩:=fieldOff_fact hty h
  simp [execOp,ho,Instr.fieldAt,run_underlying h1,h2,Instr.sureAddr,hp,fieldPlace,h4.size_run,h5,addr_add]
 split
 ·rename_i o' i b off h
  intro _
  obtain ⟨B,hB,hp⟩:=hx
  exact good_okv R (key h hp) ⟨B,hB,rfl⟩
 ·rename_i o' i k j off h
  simp only [RA,RU,RCl] at hx
  simp only [Rd.run]
  split
  ·rename_i y hl
   intro _
   simp only [hl] at hx
   obtain ⟨hj,B,hB,hp⟩:=hx
   refine good_okv R (key h hp) ?_
   simp only [RA,RU,RCl,hl]
   exact ⟨hj,B,hB,by rw [Nat.add_assoc]⟩
  ·rename_i y hl
   intro _
   simp only [hl] at hx
   obtain ⟨hj,hlen,B,o2,hp,hB,hS,hc⟩:=hx
   refine good_okv R (key h hp) ?_
   simp only [RA,RU,RCl,hl]
   exact ⟨hj,hlen,B,o2,by rw [Nat.add_assoc],hB,hS,hc⟩
  ·exact bad_elim
 ·rename_i o' i l off h
  intro _
  obtain ⟨B,o2,hp,hB,hS,hc⟩:=hx
  exact good_okv R (key h hp) ⟨B,o2,by rw [Nat.add_assoc],hB,hS,hc⟩
 ·rename_i o' i b l h
  intro hb
  obtain rfl:b=true:=hb
  obtain ⟨B,o2,hp,hB,hS,hc⟩:=rd_pt.1 hx
  exact good_okv R (key h hp) ⟨B,o2,rfl,hB,hS,hc⟩
 ·exact bad_elim
theorem good_storeH (hty:TyOk P ty) (R:Rel cx st m a w) {t:Nat} {x y:Operand} (ho:o.op= .store t x y) (hobl:((evStoreH ty t (valOf st x) (valOf st y)).run st).obl) :
 Good P cx st a w o ((evStoreH ty t (valOf st x) (valOf st y)).run st):=by
 have hx:=R.val x
 have hy:=R.val y
 have hs0:((evStore ty t (valOf st x) (valOf st y)).run st).obl→Good P cx st a w o ((evStore ty t (valOf st x) (valOf st y)).run st):=fun h=>good_store hty R ho h
 generalize valOf st x=ax at*
 generalize valOf st y=ay at*
 revert hobl
 unfold evStoreH
 split
 ·rename_i k j off kk
  simp only [Rd.run]
  split
  ·rename_i z hl
   simp only [Rd.run]
   split
   ·rename_i d hkk
    split
    ·rename_i i hi
     intro hobl
     simp only [Rd.run] at hobl ⊢
     obtain ⟨e1,rfl,hj⟩:=hobl
     simp only [RA,RU,RCl,hl] at hx
     simp only [RA,RU,RCl,hkk] at hy
     obtain ⟨_,B,hB,hp⟩:=hx
     obtain ⟨d1,e3,d3⟩:=R.deeps.ok k z hl
     obtain ⟨c,T,hc,_,hz⟩:=(R.ods k z.holed (by rw [hl]; rfl)).2 B hB
     have hone:One (a.eval y):=hdl_one hy
     have hcells:(a.eval y).cells= #[a.eval y]:=hone.1
     have hcsz:j*z.stride+0+1≤c.size:=by
      obtain ⟨u,hu,_⟩:=(hz j hj).2 0 (by show 0<z.stride; omega)
      have:=(Array.getElem?_eq_some_iff.1 hu).1
      have h2:z.holed.stride=z.stride:=rfl
      rw [h2] at this
      omega
     obtain ⟨w',c',hr,s⟩:=good_store_run (hty t i hi) ho hp hc (by rw [hcells,e1]; rfl) (by intro v hv; rw [hcells] at hv; simp at hv; rw [hv]; exact hone) (by rw [e1]; exact hcsz)
     rw [hcells] at s
     have hcell:∀ q,w'.cell? ⟨B,q,none⟩=if q=j then some (a.eval y) else w.cell? ⟨B,q,none⟩:=fun q=>by
      have:=s.get q
      simp only [World.cell?,s.row,hc]
      by_cases e:q=j
      ·subst e
       rw [if_pos (by rw [e3]; simp)] at this
       simp only [e3,Nat.mul_one,Nat.add_zero,Nat.sub_self] at this
       rw [if_pos rfl]
       simpa using this
      ·rw [if_neg (by rw [e3]; simp; omega)] at this
       rw [if_neg e]
       simpa using this
     refine Good.skip (m':=_) hr (R.moveIn hl hkk hj hB s.env s.size s.other (fun c2 T2 h2=> ?_) ((hcell j).trans (if_pos rfl)) (fun q hq=>(hcell q).trans (if_neg hq)) hy hone) rfl
     rw [hc] at h2
     obtain ⟨rfl,rfl⟩:=by simpa using h2
     exact ⟨c',s.row,s.len⟩
    ·exact bad_elim
   ·exact bad_elim
  ·exact bad_elim
 ·exact hs0
end
end Go.Abs

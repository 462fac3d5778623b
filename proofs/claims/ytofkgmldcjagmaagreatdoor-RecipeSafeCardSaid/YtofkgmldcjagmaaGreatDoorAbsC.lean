import Derived.Test.YtofkgmldcjagmaaGreatDoorAbsB
import Derived.Orders
import Derived.Test.YtofkgmldcjagmaaGreatDoorAbsA
import Derived.IntWalk
import Derived.Laws.Cover3
set_option linter.unusedVariables false
set_option linter.unusedSimpArgs false
namespace Go.dG
inductive K where
 | code (c:Code)
 | blk (id:Nat)
 | lp (c:Code)
 | ops (ops:Array Oper) (i:Nat)
def fO (ops:Array Oper) (i:Nat):List Nat:=(List.range (ops.size - i)).map (i+ ·)
def JH (P:Program) (ρ:Option Nat) (c:Code) (Q:Exit→Act→World→Prop) (a:Act) (w:World):Prop:=
 ∀ (b:Frame) (k:List Item) (cs:List Frame),b.roundOf=ρ→∃ e a' w',Q e a' w'∧ArrivesIn (Machine.fenced P (FR ρ)) P (lone (b.atR a (.code c:: .inLoop c::k)) cs w) b k cs e a' w'
theorem Y4 {ρ:Option Nat} (n:Nat):(FR ρ).room n:=fun d h=>by cases h
section
variable {P:Program} {ρ:Option Nat} {Q:Exit→Act→World→Prop} {a:Act} {w:World} {c:Code}
theorem LD (h:c.wpIn (FR ρ) 0 P (Exit.then (JH P ρ c Q) Q) a w):JH P ρ c Q a w:=by
 intro b k cs hro
 obtain ⟨e,a₁,w₁,hq,harr⟩:=h b (.inLoop c::k) cs hro trivial (Y4 _)
 cases e with
 | normal=>
  obtain ⟨e₂,a₂,w₂,hq₂,harr₂⟩:=hq b k cs hro
  exact ⟨e₂,a₂,w₂,hq₂,.of_steps (StepsIn.trans harr (.one (fenced_calm (F:=FR ρ) (n:=0) trivial (Y4 _) rfl) stepR_inLoop)) harr₂⟩
 | exit id=>exact ⟨_,a₁,w₁,hq,.pass (x:= .inLoop c) rfl (fun _ _=> .inl (by simp)) harr⟩
 | goto l=>exact ⟨_,a₁,w₁,hq,.pass (x:= .inLoop c) rfl (fun _ _=> .inl (by simp)) harr⟩
 | ret=>exact ⟨_,a₁,w₁,hq,.pass (x:= .inLoop c) rfl (fun _ _=> .inl (by simp)) harr⟩
 | panic ch=>exact ⟨_,a₁,w₁,hq,.pass (x:= .inLoop c) rfl (fun _ _=> .inl (by simp)) harr⟩
 | outgrown=>exact ⟨_,a₁,w₁,hq,.pass (x:= .inLoop c) rfl (fun _ _=> .inl (by simp)) harr⟩
theorem Oc (h:JH P ρ c Q a w):(Code.loop c).wpIn (FR ρ) 0 P Q a w:=by
 intro b k cs hro hb hr
 obtain ⟨e,a',w',hq,harr⟩:=h b k cs hro
 exact ⟨e,a',w',hq,.of_steps (.one (fenced_calm hb hr rfl) stepR_loop) harr⟩
end
def qm (P:Program) (ρ:Option Nat):List K→(Exit→Act→World→Prop)→Exit→Act→World→Prop
 | [],Q=>Q
 | .code c::k,Q=>Exit.then (fun a w=>c.wpIn (FR ρ) 0 P (qm P ρ k Q) a w) (qm P ρ k Q)
 | .blk id::k,Q=>Exit.inBlock id (qm P ρ k Q)
 | .lp c::k,Q=>Exit.then (JH P ρ c (qm P ρ k Q)) (qm P ρ k Q)
 | .ops ops i::k,Q=>Exit.then (fun a w=>wpOpsIn (FR ρ) 0 P ops (qm P ρ k Q) (fO ops i) a w) (qm P ρ k Q)
def ES (id:Nat):List K→Option (List K)
 | []=>none
 | .blk i::k=>if id=i then some k else ES id k
 | .code _::k=>ES id k
 | .lp _::k=>ES id k
 | .ops _ _::k=>ES id k
theorem pO {P:Program} {ρ:Option Nat} {Q:Exit→Act→World→Prop} {a:Act} {w:World} {id:Nat}:∀ {k k':List K},ES id k=some k'→qm P ρ k' Q .normal a w→qm P ρ k Q (.exit id) a w
 | [],_,h,_=>by cases h
 | .blk i::k,k',h,hs=>by
  simp only [ES] at h
  simp only [qm,Exit.inBlock]
  split at h
  ·rename_i e; obtain rfl:=Option.some.inj h; rw [if_pos e]; exact hs
  ·rename_i e; rw [if_neg e]; exact pO h hs
 | .code c::k,k',h,hs=>by exact pO (k:=k) h hs
 | .lp c::k,k',h,hs=>by exact pO (k:=k) h hs
 | .ops o i::k,k',h,hs=>by exact pO (k:=k) h hs
theorem sF {P:Program} {ρ:Option Nat} {Q:Exit→Act→World→Prop} {a:Act} {w:World}:∀ {k:List K},Q .ret a w→qm P ρ k Q .ret a w
 | [],h=>h
 | .blk i::k,h=>by exact sF (k:=k) h
 | .code c::k,h=>by exact sF (k:=k) h
 | .lp c::k,h=>by exact sF (k:=k) h
 | .ops o i::k,h=>by exact sF (k:=k) h
def AR (P:Program) (ρ:Option Nat) (cx:Cx) (Q:Exit→Act→World→Prop) (k:List K) (st:St):Prop:=
 ∀ m a w,Rel cx st m a w→qm P ρ k Q .normal a w
theorem sG {P:Program} {ρ:Option Nat} {Q:Exit→Act→World→Prop} {a:Act} {w:World} {id:Nat}:∀ {k:List K},ES id k=none→Q (.exit id) a w→qm P ρ k Q (.exit id) a w
 | [],_,h=>h
 | .blk i::k,hp,h=>by
  simp only [ES] at hp
  simp only [qm,Exit.inBlock]
  split at hp
  ·cases hp
  ·rename_i e; rw [if_neg e]; exact sG hp h
 | .code c::k,hp,h=>by exact sG (k:=k) hp h
 | .lp c::k,hp,h=>by exact sG (k:=k) hp h
 | .ops o i::k,hp,h=>by exact sG (k:=k) hp h
inductive Bo where
 | off
 | ret
 | exit (id:Nat)
def kF (f:St→Prop):Bo→St→Prop
 | .off,st=>f st
 | .ret,st=>f st
 | .exit _,_=>False
def U8 (f:St→Prop):Bo→St→Prop
 | .off,st=>f st
 | _,_=>False
def aeY:List Nat→Nat→Bool
 | [],_=>false
 | j::r,i=>if j=i then true else aeY r i
def vc (ty:iE) (tb:oC) (nt:Nat) (draw:List Oper→St→Prop) (fin:Bo→St→Prop) (stop:List K→St→Prop) (brk:List Nat):Nat→List K→St→Prop
 | 0,k,st=>stop k st
 | _+1,[],st=>fin .off st
 | n+1,.code .skip::k,st=>vc ty tb nt draw fin stop brk n k st
 | n+1,.code (.label _)::k,st=>vc ty tb nt draw fin stop brk n k st
 | n+1,.code (.seq a b)::k,st=>vc ty tb nt draw fin stop brk n (.code a:: .code b::k) st
 | n+1,.code (.region id ops false)::k,st=>
  if aeY brk id=true then stop (.code (.region id ops false)::k) st else (iy ty tb nt (ops.toList.map (·.dst)) ops.toList st).1∧vc ty tb nt draw fin stop brk n k (iy ty tb nt (ops.toList.map (·.dst)) ops.toList st).2
 | n+1,.code (.region id ops true)::k,st=>
  if aeY brk id=true then stop (.code (.region id ops true)::k) st else
  (iy ty tb nt (ops.toList.map (·.dst)) ops.toList st).1∧draw ops.toList st∧vc ty tb nt draw fin stop brk n k (iy ty tb nt (ops.toList.map (·.dst)) ops.toList st).2
 | n+1,.code (.cond c x y)::k,st=>
  match valOf st c with
  | .u (.c (.d (.bool b)))=>(b=true→vc ty tb nt draw fin stop brk n (.code x::k) st)∧(b=false→vc ty tb nt draw fin stop brk n (.code y::k) st)
  | _=>False
 | n+1,.code (.block id c)::k,st=>vc ty tb nt draw fin stop brk n (.code c:: .blk id::k) st
 | _+1,.code (.loop c)::k,st=>stop (.lp c::k) st
 | n+1,.code (.exit id)::k,st=>
  match ES id k with
  | some k'=>vc ty tb nt draw fin stop brk n k' st
  | none=>fin (.exit id) st
 | _+1,.code .ret::_,st=>fin .ret st
 | n+1,.blk _::k,st=>vc ty tb nt draw fin stop brk n k st
 | _+1,.lp c::k,st=>stop (.lp c::k) st
 | n+1,.ops ops i::k,st=>
  (iy ty tb nt (ops.toList.map (·.dst)) (ops.toList.drop i) st).1∧vc ty tb nt draw fin stop brk n k (iy ty tb nt (ops.toList.map (·.dst)) (ops.toList.drop i) st).2
 | _+1,.code c::k,st=>stop (.code c::k) st
section
variable {P:Program} {ty:iE} {tb:oC} {cx:Cx} {Q:Exit→Act→World→Prop} {draw:List Oper→St→Prop} {fin:Bo→St→Prop} {ρ:Option Nat}
def tV (P:Program) (ty:iE) (tb:oC) (cx:Cx) (draw:List Oper→St→Prop):Prop:=
 ∀ (ρ:Option Nat) (id:Nat) (ops:Array Oper) (st:St) (Q:Exit→Act→World→Prop) (m:Mp) (a:Act) (w:World),Rel cx st m a w→(iy ty tb cx.nt (ops.toList.map (·.dst)) ops.toList st).1→draw ops.toList st→
  (∀ m' a' w',Rel cx (iy ty tb cx.nt (ops.toList.map (·.dst)) ops.toList st).2 m' a' w'→Q .normal a' w')→(Code.region id ops true).wpIn (FR ρ) 0 P Q a w
theorem Zy (hty:iw P ty) (htb:fC P tb) {st:St} {m:Mp} {a:Act} {w:World} (R:Rel cx st m a w) {ops:Array Oper} {i:Nat} (h1:(iy ty tb cx.nt (ops.toList.map (·.dst)) (ops.toList.drop i) st).1)
 (h2:∀ m' a' w',Rel cx (iy ty tb cx.nt (ops.toList.map (·.dst)) (ops.toList.drop i) st).2 m' a' w'→Q .normal a' w'):wpOpsIn (FR ρ) 0 P ops Q (fO ops i) a w:=by
 by_cases hi:i≤ops.size
 ·have e:=y8 ty tb cx.nt ops.toList (ops.toList.drop i) (ops.toList.take i) st (List.take_append_drop _ _).symm
  have e2:(ops.toList.take i).length=i:=by simp [hi]
  simp only [e2,List.length_drop,Array.length_toList] at e
  exact yT hty htb _ st m a w R (by rw [fO,e]; exact h1) (by rw [fO,e]; exact h2)
 ·have e:ops.toList.drop i=[]:=List.drop_eq_nil_of_le (by simp; omega)
  rw [e] at h1 h2
  have e2:fO ops i=[]:=by simp [fO]; omega
  rw [e2]
  exact h2 m a w R
theorem afy {c:Code} {k:List K} {st:St} (h:AR P ρ cx Q (.code c:: .lp c::k) st):AR P ρ cx Q (.lp c::k) st:=
 fun m a w R=>LD (h m a w R)
def VY (cx:Cx) (Q:Exit→Act→World→Prop) (fin:Bo→St→Prop):Prop:=
 ∀ st m a w,Rel cx st m a w→(fin .off st→Q .normal a w)∧(fin .ret st→Q .ret a w)∧∀ id,fin (.exit id) st→Q (.exit id) a w
theorem acC (hty:iw P ty) (htb:fC P tb) (uT:tV P ty tb cx draw) (hfin:VY cx Q fin) :
 ∀ (brk:List Nat) (n:Nat) (k:List K) (st:St),vc ty tb cx.nt draw fin (AR P ρ cx Q) brk n k st→AR P ρ cx Q k st:=by
 intro brk n
 induction n with
 | zero=>intro k st h; exact h
 | succ n ih=>
  intro k st h m a w R
  unfold vc at h
  split at h
  ·rename_i he; cases he
  ·exact (hfin _ m a w R).1 h
  ·exact wpIn_skip (ih _ _ (by rename_i he; obtain rfl:=Nat.succ.inj he; exact h) m a w R)
  ·exact wpIn_label (ih _ _ (by rename_i he; obtain rfl:=Nat.succ.inj he; exact h) m a w R)
  ·rename_i he; obtain rfl:=Nat.succ.inj he
   exact wpIn_seq (ih _ _ h m a w R)
  ·rename_i he; obtain rfl:=Nat.succ.inj he
   split at h
   ·exact h m a w R
   ·exact Iu hty htb R h.1 (fun m' a' w' R'=>ih _ _ h.2 m' a' w' R')
  ·rename_i he; obtain rfl:=Nat.succ.inj he
   split at h
   ·exact h m a w R
   ·exact uT _ _ _ _ _ m a w R h.1 h.2.1 (fun m' a' w' R'=>ih _ _ h.2.2 m' a' w' R')
  ·rename_i he; obtain rfl:=Nat.succ.inj he
   split at h
   ·rename_i b hv
    have hx:=R.val ‹Operand›
    rw [hv] at hx
    refine wpIn_cond_split (oL hx) (fun hb=>ih _ _ (h.1 hb) m a w R) (fun hb=>ih _ _ (h.2 hb) m a w R)
   ·exact h.elim
  ·rename_i he; obtain rfl:=Nat.succ.inj he
   exact wpIn_block (ih _ _ h m a w R)
  ·exact Oc (h m a w R)
  ·rename_i he; obtain rfl:=Nat.succ.inj he
   split at h
   ·rename_i k' hp
    exact wpIn_exit (pO hp (ih _ _ h m a w R))
   ·rename_i hp
    exact wpIn_exit (sG hp ((hfin _ m a w R).2.2 _ h))
  ·exact wpIn_ret (sF ((hfin _ m a w R).2.1 h))
  ·rename_i he; obtain rfl:=Nat.succ.inj he
   exact ih _ _ h m a w R
  ·exact h m a w R
  ·rename_i he; obtain rfl:=Nat.succ.inj he
   exact Zy hty htb R h.1 (fun m' a' w' R'=>ih _ _ h.2 m' a' w' R')
  ·exact h m a w R
def VT:Arg→AV
 | .c x=> .c (.d x)
 | .agg l=> .agg (l.map .d)
 | .ptr l=> .c (.dK l 0)
 | .clo f caps=> .c (.clo f (caps.map fun l=> .dK l 0))
def NT:Nat→List Arg→List (Nat×AV)
 | _,[]=>[]
 | i,x::r=>(i,VT x)::NT (i+1) r
def St.begin (args:List Arg):St:=⟨NT 0 args,[],[]⟩
theorem LH:∀ {args:List Arg} {i t:Nat} {v:AV},lk (NT i args) t=some v→∃ j x,args[j]? =some x∧t=i+j∧v=VT x
 | [],_,_,_,h=>by cases h
 | x::r,i,t,v,h=>by
  simp only [NT,lk] at h
  split at h
  ·rename_i e
   obtain rfl:=Option.some.inj h
   exact ⟨0,x,rfl,by omega,rfl⟩
  ·obtain ⟨j,y,h1,h2,h3⟩:=LH h
   exact ⟨j+1,y,by simpa using h1,by omega,h3⟩
theorem FT {w : World} {S : Nat → Prop} : ∀ {args : List Arg} {vs : List Value}, jk w S args vs → vs.length = args.length ∧ ∀ (j : Nat) (x : Arg), args[j]? = some x → ∃ v : Value, vs[j]? = some v ∧ JG w S x v
  | [], [], _ => ⟨rfl, fun j x h => by simp at h⟩
  | [], _ :: _, h => h.elim
  | _ :: _, [], h => h.elim
  | y :: r, v :: vs, h => by
    obtain ⟨h1, h2⟩ := FT h.2
    refine ⟨by simp [h1], fun j x hx => ?_⟩
    cases j with
    | zero => obtain rfl : y = x := by simpa using hx
              exact ⟨v, rfl, h.1⟩
    | succ j => simpa using h2 j x (by simpa using hx)
structure Stop (P:Program) (ty:iE) (tb:oC) (n:Nat) (draw:List Oper→St→Prop) (fin:Bo→St→Prop) (stop:List K→St→Prop) (fH:List AV:=[]):Prop where
 ex:∃ (cx:Cx) (Q:Exit→Act→World→Prop) (ρ:Option Nat),cx.nt=n∧cx.fH.map (·.1)=fH∧iw P ty∧fC P tb∧tV P ty tb cx draw∧
  VY cx Q fin∧(∀ l,ρ=some l→∃ r,(l,Obj.loop r)∈cx.recs)∧stop=AR P ρ cx Q
section
variable {n:Nat} {stop:List K→St→Prop} {fH:List AV}
theorem Stop.lp (S:Stop P ty tb n draw fin stop fH) {c:Code} {k:List K} {st:St} (h:stop (.code c:: .lp c::k) st):stop (.lp c::k) st:=by
 obtain ⟨cx,Q,ρ,-,-,-,-,-,-,-,rfl⟩:=S.ex
 exact afy h
theorem Stop.goB (S:Stop P ty tb n draw fin stop fH) (brk:List Nat) (fuel:Nat) {k:List K} {st:St} (h:vc ty tb n draw fin stop brk fuel k st):stop k st:=by
 obtain ⟨cx,Q,ρ,rfl,-,hty,htb,hd,hf,-,rfl⟩:=S.ex
 exact acC hty htb hd hf brk fuel k st h
theorem Stop.go (S:Stop P ty tb n draw fin stop fH) (fuel:Nat) {k:List K} {st:St} (h:vc ty tb n draw fin stop [] fuel k st):stop k st:=S.goB [] fuel h
theorem Stop.weak (S:Stop P ty tb n draw fin stop fH) {k:List K} {st:St} (st':St) (hle:∀ cx m a w,cx.nt=n→cx.fH.map (·.1)=fH→Rel cx st m a w→∃ m',Rel cx st' m' a w) (h:stop k st'):stop k st:=by
 obtain ⟨cx,Q,ρ,hn,hs,-,-,-,-,-,rfl⟩:=S.ex
 intro m a w R
 obtain ⟨m',R'⟩:=hle cx m a w hn hs R
 exact h m' a w R'
end
theorem JV {f : Nat} {fn : Func} {c : Code} {sp : fD} {n : Nat} (hty : iw P ty) (htb : fC P tb) (hf : P.funcs[f]? = some fn) (hb : fn.body = some c) (hn : fn.ntmps = n)
    (uT : ∀ cx, cx.nt = n → tV P ty tb cx draw) (fin' : List Arg → St → Prop)
    (atu : ∀ args cx st m a w, sp.pre args → Rel cx st m a w → fin' args st → ∃ v, (results fn a.tmps).run P w = .ok v w ∧ Left cx.w0 w cx.S0 sp args v)
    (nrm : List Arg → List Arg) (aAw : ∀ args w S vs, sp.pre args → jk w S args vs → jk w S (nrm args) vs)
    (h : ∀ args, sp.pre args → ∀ stop, Stop P ty tb n draw (kF (fin' args)) stop → stop [.code c] (St.begin (nrm args))) (hlen : ∀ args, sp.pre args → (nrm args).length ≤ n) : Valid P f sp := by
  intro S0 w vg vs aaD hS0 hargs0 hpre
  have hle := hlen vg hpre
  have hargs := aAw vg w S0 vs.toList hpre hargs0
  generalize hq : nrm vg = args at hargs hle
  obtain ⟨g1, g2⟩ := FT hargs
  let cx : Cx := ⟨S0, w, aaD, n, [], []⟩
  refine callsIn_wide.1 (callsIn_of_wp_marks (F := Fence.wide) (n := 0) hf hb trivial ?_)
  have hR : Rel cx (St.begin args) ⟨fun _ => none, fun _ => none, fun _ _ => none, fun _ => none⟩ { tmps := vs ++ Array.replicate (fn.ntmps - vs.size) undef, defers := [] } w := by
    refine { defers := ⟨[], rfl, List.nodup_nil, fun _ h => (by cases h), fun _ h => (by cases h), fun _ h => (by cases h)⟩, recs := fun p hp => (by cases hp), nt := ?_, env := .refl _, size := Nat.le_refl _, old := fun _ _ => rfl, s0 := hS0, slots := fun t v ht => ?_, fH := fun p hp => (by cases hp), boxes := fun b cs h => (by cases h), fP := fun _ _ => rfl,
             lT := fun k x h => (by cases h), gu := fun _ _ => rfl, aX := ⟨fun k x h => (by cases h), fun k j B h => (by cases h), fun k j B h => (by cases h), fun k j k' j' B h => (by cases h), fun k j k' B h => (by cases h), fun k j b B h => (by cases h)⟩, sets := ⟨fun k x h => (by cases h), fun k B h => (by cases h), fun k k' B h => (by cases h)⟩, dH := fun _ _ h => (by cases h), fM := fun _ _ h => (by cases h), iK := fun _ _ _ h => (by cases h), jS := fun _ _ _ h => (by cases h), qx := fun _ _ _ h => (by cases h) }
    · have : vs.size = args.length := by simpa using g1
      simp [hn, this, cx]; omega
    · obtain ⟨j, x, hj, rfl, rfl⟩ := LH ht
      obtain ⟨v, hv, hr⟩ := g2 j x hj
      have hlt := (List.getElem?_eq_some_iff.1 hj).1
      refine ⟨by show 0 + j < n; omega, ?_⟩
      have hv2 : (vs ++ Array.replicate (fn.ntmps - vs.size) undef).getD (0 + j) undef = v := by
        have hjs : j < vs.size := by have := (List.getElem?_eq_some_iff.1 hv).1; simpa using this
        rw [Nat.zero_add, Array.getD_eq_getD_getElem?, Array.getElem?_append_left hjs]
        simpa using congrArg (fun o => o.getD undef) hv
      show RA cx _ w _ _ (Array.getD _ _ _)
      rw [hv2]
      have hext : Ext w w S0 (fE cx ⟨fun _ => none, fun _ => none, fun _ _ => none, fun _ => none⟩) := ⟨Nat.le_refl _, fun _ _ _ => rfl, fun B _ h => ⟨.inl h, fun _ h => (by cases h), fun _ h => (by cases h), fun _ _ h => (by cases h)⟩⟩
      cases x with
      | c x => exact RD.ext hext hr
      | agg l =>
        obtain ⟨us, rfl, hsz, hc⟩ := hr
        refine ⟨us, rfl, by simpa using hsz, fun i hi => ?_⟩
        simp only [List.length_map] at hi
        obtain ⟨u, hu, hr⟩ := hc i hi
        refine ⟨u, hu, ?_⟩
        have e : (l.map AC.d).getD i .undef = .d (l.getD i .undef) := by simp [List.getD_eq_getElem?_getD, hi]
        rw [e]; exact RD.ext hext hr
      | ptr l => exact Ptr.ext hext hr
      | clo f caps =>
        obtain ⟨us, rfl, hsz, hc⟩ := hr
        refine ⟨us, rfl, by simpa using hsz, fun i hi => ?_⟩
        simp only [List.length_map] at hi
        obtain ⟨u, hu, hr⟩ := hc i hi
        refine ⟨u, hu, ?_⟩
        have e : (caps.map fun l => Cap.dK l 0).getD i (.ref 0 0) = .dK (caps.getD i []) 0 := by simp [List.getD_eq_getElem?_getD, hi]
        rw [e]; exact Ptr.ext hext hr
  have hfin : VY cx (bodyPostM Fence.wide 0 P fn fun e w' => ∃ v, e = .returned v ∧ Left w w' S0 sp vg v) (kF (fin' vg)) := by
    intro st m a w' R
    have key : fin' vg st → LeavesInM Fence.wide 0 P fn a.tmps (fun e w' => ∃ v, e = .returned v ∧ Left w w' S0 sp vg v) a.defers .returning w' := by
      intro hf
      obtain ⟨Ds, hm⟩ := R.defers
      obtain ⟨w2, R2, -, -, h4⟩ := oO (P := P) R hm
      obtain ⟨v, h1, h2⟩ := atu vg cx st m _ w2 hpre R2 hf
      exact h4 ⟨v, h1, v, rfl, h2⟩
    exact ⟨key, key, fun id h => h.elim⟩
  rw [← hq] at hR
  exact h vg hpre (AR P none cx (bodyPostM Fence.wide 0 P fn fun e w' => ∃ v, e = .returned v ∧ Left w w' S0 sp vg v)) ⟨cx, _, none, rfl, rfl, hty, htb, uT cx rfl, hfin, (fun _ h => by cases h), rfl⟩ _ _ _ hR
end
end Go.dG
set_option linter.unusedVariables false
set_option linter.unusedSimpArgs false
namespace Go.dG
inductive CV where
 | slot (v:Option AV) | box (v:Option (List AC)) | lab (v:Option eX)
def St.get (st:St):tX→CV
 | .slot t=> .slot (lk st.sl t)
 | .box b=> .box (lk st.bx b)
 | .lab k=> .lab (lk st.lb k)
theorem WE {α:Type} (r:Rd α) (s s':St) (h:∀ c∈r.log s,s'.get c=s.get c):r.run s'=r.run s:=by
 induction r with
 | ret a=>rfl
 | slot t k ih=>
  have h0:lk s'.sl t=lk s.sl t:=by have:=h (.slot t) (by simp [Rd.log]); simpa [St.get] using this
  simp only [Rd.run,h0]
  exact ih _ (fun c hc=>h c (by simp [Rd.log,hc]))
 | box b k ih=>
  have h0:lk s'.bx b=lk s.bx b:=by have:=h (.box b) (by simp [Rd.log]); simpa [St.get] using this
  simp only [Rd.run,h0]
  exact ih _ (fun c hc=>h c (by simp [Rd.log,hc]))
 | lab l k ih=>
  have h0:lk s'.lb l=lk s.lb l:=by have:=h (.lab l) (by simp [Rd.log]); simpa [St.get] using this
  simp only [Rd.run,h0]
  exact ih _ (fun c hc=>h c (by simp [Rd.log,hc]))
def Wr.comp:Wr→tX | .box b _=> .box b | .lab k _=> .lab k
def writes (dst:Option Nat) (o:Out):List tX:=(match dst with | some t=>[.slot t] | none=>[])++o.wr.map Wr.comp
theorem CQ (ws:List Wr):∀ (s s':St) (c:tX),(c∉ws.map Wr.comp→(bJ s ws).get c=s.get c)∧(c∈ws.map Wr.comp→(bJ s ws).get c=(bJ s' ws).get c):=by
 induction ws with
 | nil=>intro s s' c; exact ⟨fun _=>rfl,fun h=>by simp at h⟩
 | cons x r ih=>
  intro s s' c
  refine ⟨fun h=> ?_,fun h=> ?_⟩
  ·simp only [List.map_cons,List.mem_cons,not_or] at h
   simp only [bJ]
   rw [(ih _ s' c).1 h.2]
   cases x with
   | box b l=>cases c with
    | box b'=>simp only [Wr.put,St.get]; rw [aK (by rintro rfl; exact h.1 rfl)]
    | _=>rfl
   | lab k l=>cases c with
    | lab k'=>simp only [Wr.put,St.get]; rw [aK (by rintro rfl; exact h.1 rfl)]
    | _=>rfl
  ·simp only [bJ]
   by_cases hr:c∈r.map Wr.comp
   ·exact (ih _ _ c).2 hr
   ·rw [(ih _ s c).1 hr,(ih _ s c).1 hr]
    simp only [List.map_cons,List.mem_cons] at h
    obtain rfl:=h.resolve_right hr
    cases x<;>simp [Wr.put,Wr.comp,St.get,aU]
theorem D8 (dst:Option Nat) (o:Out) (s s':St) (c:tX):(c∉writes dst o→(s.done dst o).get c=s.get c)∧(c∈writes dst o→(s.done dst o).get c=(s'.done dst o).get c):=by
 cases dst with
 | none=>simpa only [writes,List.nil_append,St.done] using CQ o.wr s s' c
 | some t=>
  have hp:=CQ o.wr s s' c
  have hsl:∀ st:St,((bJ st o.wr).slot t o.dst).get (.slot t)= .slot (some o.dst):=fun st=>by simp [St.slot,St.get,aU]
  have hoth:∀ st:St,c≠ .slot t→((bJ st o.wr).slot t o.dst).get c=(bJ st o.wr).get c:=fun st hc=>by
   cases c with
   | slot t'=>simp only [St.slot,St.get]; rw [aK (by rintro rfl; exact hc rfl)]
   | _=>rfl
  simp only [writes,List.singleton_append,List.mem_cons,not_or,St.done]
  refine ⟨fun h=>by rw [hoth s h.1,hp.1 h.2],fun h=> ?_⟩
  by_cases hc:c= .slot t
  ·subst hc; rw [hsl,hsl]
  ·rw [hoth s hc,hoth s' hc]; exact hp.2 (h.resolve_left hc)
section
variable (ty:iE) (tb:oC) (nt:Nat) (ops:List Oper) (st:St)
def dS:Nat→St
 | 0=>st
 | i+1=>match ops[i]? with
  | some o=>(eP ty tb nt (ops.map (·.dst)) o (dS i)).2
  | none=>dS i
def oK (i:Nat):List tX:=match ops[i]? with
 | some o=>(eG ty tb (ops.map (·.dst)) o).log (dS ty tb nt ops st i)
 | none=>[]
def eY (i:Nat):List tX:=match ops[i]? with
 | some o=>writes o.dst ((eG ty tb (ops.map (·.dst)) o).run (dS ty tb nt ops st i))
 | none=>[]
def Last (p:Nat→Prop) (s:St):Prop:=∀ c,
 (∃ j,p j∧c∈eY ty tb nt ops st j∧(∀ j',p j'→c∈eY ty tb nt ops st j'→j'≤j)∧s.get c=(dS ty tb nt ops st (j+1)).get c)∨
 ((∀ j,p j→c∉eY ty tb nt ops st j)∧s.get c=st.get c)
variable {ty tb nt ops st}
theorem Last.agree {p q:Nat→Prop} {s s':St} (h:Last ty tb nt ops st p s) (h':Last ty tb nt ops st q s') {c:tX} (hc:∀ j,c∈eY ty tb nt ops st j→(p j↔q j)):s.get c=s'.get c:=by
 rcases h c with ⟨j,h1,h2,h3,h4⟩ | ⟨h1,h2⟩<;>rcases h' c with ⟨k,g1,g2,g3,g4⟩ | ⟨g1,g2⟩
 ·have e1:=g3 j ((hc j h2).1 h1) h2
  have e2:=h3 k ((hc k g2).2 g1) g2
  obtain rfl:j=k:=by omega
  rw [h4,g4]
 ·exact absurd h2 (g1 j ((hc j h2).1 h1))
 ·exact absurd g2 (h1 k ((hc k g2).2 g1))
 ·rw [h2,g2]
theorem rP {i:Nat} (h:ops[i]? =none):dS ty tb nt ops st (i+1)=dS ty tb nt ops st i:=by simp [dS,h]
theorem xM:∀ i,Last ty tb nt ops st (· <i) (dS ty tb nt ops st i)
 | 0=>fun c=> .inr ⟨fun j h=>absurd h (by omega),rfl⟩
 | i+1=>fun c=>by
  cases ho:ops[i]? with
  | none=>
   have hw:eY ty tb nt ops st i=[]:=by simp [eY,ho]
   rcases xM i c with ⟨j,h1,h2,h3,h4⟩ | ⟨h1,h2⟩
   ·refine .inl ⟨j,by omega,h2,fun j' hj' hw'=> ?_,by rw [rP ho]; exact h4⟩
    by_cases e:j'=i
    ·subst e; rw [hw] at hw'; simp at hw'
    ·exact h3 j' (by omega) hw'
   ·refine .inr ⟨fun j hj hw'=> ?_,by rw [rP ho]; exact h2⟩
    by_cases e:j=i
    ·subst e; rw [hw] at hw'; simp at hw'
    ·exact h1 j (by omega) hw'
  | some o=>
   have hs:dS ty tb nt ops st (i+1)=(dS ty tb nt ops st i).done o.dst ((eG ty tb (ops.map (·.dst)) o).run (dS ty tb nt ops st i)):=by simp [dS,ho,eP]
   by_cases hc:c∈eY ty tb nt ops st i
   ·exact .inl ⟨i,by omega,hc,fun j' hj' _=>by omega,rfl⟩
   ·have hsame:(dS ty tb nt ops st (i+1)).get c=(dS ty tb nt ops st i).get c:=by
     rw [hs]; exact (D8 _ _ _ (dS ty tb nt ops st i) c).1 (by simpa [eY,ho] using hc)
    rcases xM i c with ⟨j,h1,h2,h3,h4⟩ | ⟨h1,h2⟩
    ·refine .inl ⟨j,by omega,h2,fun j' hj' hw'=> ?_,by rw [hsame]; exact h4⟩
     by_cases e:j'=i
     ·subst e; exact absurd hw' hc
     ·exact h3 j' (by omega) hw'
    ·refine .inr ⟨fun j hj hw'=> ?_,by rw [hsame]; exact h2⟩
     by_cases e:j=i
     ·subst e; exact hc hw'
     ·exact h1 j (by omega) hw'
inductive Pre (ops:List Oper):Nat→Nat→Prop
 | edge {i j:Nat} {o:Oper} {e:Edge} (ho:ops[j]? =some o) (he:e∈o.after) (hb:Region.binds .any e=true) (hi:e.on=i):Pre ops i j
 | step {i j k:Nat} (h1:Pre ops i j) (h2:Pre ops j k):Pre ops i k
def Free (ty:iE) (tb:oC) (nt:Nat) (ops:List Oper) (st:St):Prop:=∀ i j c,i<j→
 (c∈eY ty tb nt ops st i∧(c∈oK ty tb nt ops st j∨c∈eY ty tb nt ops st j))∨(c∈oK ty tb nt ops st i∧c∈eY ty tb nt ops st j)→Pre ops i j
inductive Ord (ops:List Oper):List Nat→List Nat→Prop
 | nil (p):Ord ops p []
 | cons {p q:List Nat} {i:Nat} {o:Oper} (ho:ops[i]? =some o) (hi:i∉p) (he:∀ e∈o.after,Region.binds .any e=true→e.on∈p) (h:Ord ops (p++[i]) q):Ord ops p (i::q)
theorem aeA (hfree:Free ty tb nt ops st) (aV:∀ i o,ops[i]? =some o→(eP ty tb nt (ops.map (·.dst)) o (dS ty tb nt ops st i)).1) {p q:List Nat} (h:Ord ops p q) :
 ∀ (s:St),(∀ i j,j∈p→Pre ops i j→i∈p)→Last ty tb nt ops st (· ∈p) s→(ku ty tb nt ops q s).1∧Last ty tb nt ops st (· ∈p++q) (ku ty tb nt ops q s).2:=by
 induction h with
 | nil p=>intro s _ hl; exact ⟨trivial,by simpa [ku] using hl⟩
 | @cons p q i o ho hi he h ih=>
  intro s hcl hl
  have hpre:∀ k,Pre ops k i→k∈p:=by
   intro k hk
   have:∀ {k i'},Pre ops k i'→i'=i→k∈p:=by
    intro k i' hk
    induction hk with
    | edge ho' he' hb' hi'=>intro e; subst e; rw [ho] at ho'; obtain rfl:=Option.some.inj ho'; subst hi'; exact he _ he' hb'
    | step h1 h2 ih1 ih2=>intro e; exact hcl _ _ (ih2 e) h1
   exact this hk rfl
  have hcl':∀ k j,j∈p++[i]→Pre ops k j→k∈p++[i]:=by
   intro k j hj hk
   rcases List.mem_append.1 hj with hj | hj
   ·exact List.mem_append.2 (.inl (hcl k j hj hk))
   ·obtain rfl:j=i:=by simpa using hj
    exact List.mem_append.2 (.inl (hpre k hk))
  have hread:∀ c∈oK ty tb nt ops st i,s.get c=(dS ty tb nt ops st i).get c:=by
   intro c hc
   refine hl.agree (xM i) (fun j hw=> ?_)
   rcases Nat.lt_trichotomy j i with hlt | rfl | hgt
   ·exact ⟨fun _=>hlt,fun _=>hpre j (hfree j i c hlt (.inl ⟨hw,.inl hc⟩))⟩
   ·exact ⟨fun h=>absurd h hi,fun h=>absurd h (by omega)⟩
   ·exact ⟨fun h=>absurd (hcl i j h (hfree i j c hgt (.inr ⟨hc,hw⟩))) hi,fun h=>absurd h (by omega)⟩
  have hrun:(eG ty tb (ops.map (·.dst)) o).run s=(eG ty tb (ops.map (·.dst)) o).run (dS ty tb nt ops st i):=
   WE _ _ _ (fun c hc=>hread c (by simpa [oK,ho] using hc))
  have hW:eY ty tb nt ops st i=writes o.dst ((eG ty tb (ops.map (·.dst)) o).run (dS ty tb nt ops st i)):=by simp [eY,ho]
  have hstep:eP ty tb nt (ops.map (·.dst)) o s=((eP ty tb nt (ops.map (·.dst)) o (dS ty tb nt ops st i)).1,s.done o.dst ((eG ty tb (ops.map (·.dst)) o).run (dS ty tb nt ops st i))):=by
   simp [eP,hrun]
  have hl':Last ty tb nt ops st (· ∈p++[i]) (eP ty tb nt (ops.map (·.dst)) o s).2:=by
   intro c
   rw [hstep]
   by_cases hc:c∈eY ty tb nt ops st i
   ·refine .inl ⟨i,by simp,hc,fun j hj hw=> ?_,?_⟩
    ·rcases List.mem_append.1 hj with hj | hj
     ·rcases Nat.lt_or_ge i j with hlt | hge
      ·exact absurd (hcl i j hj (hfree i j c hlt (.inl ⟨hc,.inr hw⟩))) hi
      ·exact hge
     ·have:j=i:=by simpa using hj
      omega
    ·have hs:dS ty tb nt ops st (i+1)=(dS ty tb nt ops st i).done o.dst ((eG ty tb (ops.map (·.dst)) o).run (dS ty tb nt ops st i)):=by simp [dS,ho,eP]
     rw [hs]
     exact (D8 _ _ s (dS ty tb nt ops st i) c).2 (by rw [← hW]; exact hc)
   ·have hsame:(s.done o.dst ((eG ty tb (ops.map (·.dst)) o).run (dS ty tb nt ops st i))).get c=s.get c:=(D8 _ _ s s c).1 (by rw [← hW]; exact hc)
    rcases hl c with ⟨j,h1,h2,h3,h4⟩ | ⟨h1,h2⟩
    ·refine .inl ⟨j,List.mem_append.2 (.inl h1),h2,fun j' hj' hw'=> ?_,by rw [hsame]; exact h4⟩
     rcases List.mem_append.1 hj' with hj' | hj'
     ·exact h3 j' hj' hw'
     ·obtain rfl:j'=i:=by simpa using hj'
      exact absurd hw' hc
    ·refine .inr ⟨fun j hj hw'=> ?_,by rw [hsame]; exact h2⟩
     rcases List.mem_append.1 hj with hj | hj
     ·exact h1 j hj hw'
     ·obtain rfl:j=i:=by simpa using hj
      exact hc hw'
  obtain ⟨g1,g2⟩:=ih _ hcl' hl'
  simp only [ku,ho]
  refine ⟨⟨by rw [hstep]; exact aV i o ho,g1⟩,by simpa using g2⟩
end
end Go.dG
set_option linter.unusedVariables false
set_option linter.unusedSimpArgs false
namespace Go.dG
theorem CZ : ∀ (n : Nat) (l : List Nat), l.Nodup → (∀ x ∈ l, x < n) → l.length ≤ n
  | 0, [], _, _ => Nat.le_refl _
  | 0, x :: _, _, h => absurd (h x (by simp)) (by omega)
  | n + 1, l, hn, h => by
    by_cases hm : n ∈ l
    · have h1 := CZ n (l.erase n) (hn.erase n) (fun x hx => by
        rw [hn.mem_erase_iff] at hx
        have := h x hx.2
        omega)
      have := List.length_erase_of_mem hm
      omega
    · have := CZ n l hn (fun x hx => by
        have := h x hx
        rcases Nat.lt_or_ge x n with h' | h'
        · exact h'
        · exact absurd (by have : x = n := by omega
                           exact this ▸ hx) hm)
      omega
def Ac (md:Region.Mode) (ops:List Oper):List Nat→List Nat→Bool
 | p,[]=>(List.range ops.length).all fun i=>p.contains i
 | p,i::r=>
  match ops[i]? with
  | some o=>(o.after.toList.all fun e=> !Region.binds md e || p.contains e.on) && Ac md ops (p++[i]) r
  | none=>false
def BF (md:Region.Mode) (ops:List Oper) (p:List Nat):List Nat→Option Nat
 | []=>none
 | i::r=>
  match ops[i]? with
  | some o=>if (o.after.toList.all fun e=> !Region.binds md e || p.contains e.on)=true then some i else BF md ops p r
  | none=>BF md ops p r
def ahi (md:Region.Mode) (ops:List Oper):Nat→List Nat→List Nat→List Nat
 | 0,p,_=>p
 | n+1,p,r=>
  match BF md ops p r with
  | some i=>ahi md ops n (p++[i]) (r.filter fun j=> !(j == i))
  | none=>p
def Goes (md:Region.Mode) (ops:List Oper):Prop:=∃ L,Ac md ops [] L=true
section
variable {ops:Array Oper}
theorem MJ {md:Region.Mode} {ops:List Oper} {p:List Nat} (aaz:∀ i o,ops[i]? =some o→i∉p→∃ e∈o.after,Region.binds md e=true∧e.on∉p) :
 ∀ (L q:List Nat),Ac md ops q L=true→(∀ y∈q,y∈p)→∀ i,i<ops.length→i∈p
 | [],q,h,hq,i,hi=>by
  simp only [Ac,List.all_eq_true,List.mem_range] at h
  exact hq i (by simpa using h i hi)
 | x::r,q,h,hq,i,hi=>by
  simp only [Ac] at h
  split at h
  ·rename_i o ho
   simp only [Bool.and_eq_true] at h
   refine MJ aaz r (q++[x]) h.2 (fun y hy=> ?_) i hi
   rcases List.mem_append.1 hy with hy | hy
   ·exact hq y hy
   ·obtain rfl:y=x:=by simpa using hy
    refine Classical.byContradiction fun hm=> ?_
    obtain ⟨e,he,hb,hn⟩:=aaz y o ho hm
    have:=List.all_eq_true.1 h.1 e (Array.mem_toList_iff.2 he)
    simp only [hb,Bool.not_true,Bool.false_or,List.contains_iff_mem] at this
    exact hn (hq _ this)
  ·cases h
theorem Yl {md:Region.Mode} {e:Edge} (h:Region.binds .any e=true):Region.binds md e=true:=by
 unfold Region.binds at*
 split at h<;>first | (cases md<;>simp_all; done) | rfl
theorem aaX {md:Region.Mode} (h:Goes md ops.toList):∀ (fuel t:Nat) (listed:Array Bool) (p:List Nat),listed.size=ops.size→(∀ j,j<ops.size→(listed.getD j true=true↔j∈p))→p.Nodup→(∀ j∈p,j<ops.size)→p.length+fuel=ops.size→
 Ord ops.toList p (Region.linearise.go md ops fuel t listed [])∧∀ i,i<ops.size→i∈p++Region.linearise.go md ops fuel t listed []
 | 0,t,listed,p,hsz,hl,hn,hb,hf=>by
  refine ⟨.nil _,fun i hi=> ?_⟩
  simp only [Region.linearise.go,List.reverse_nil,List.append_nil]
  by_cases hm:i∈p
  ·exact hm
  ·have:=CZ ops.size (i::p) (List.nodup_cons.2 ⟨hm,hn⟩) (fun x hx=>by
    rcases List.mem_cons.1 hx with rfl | hx
    ·exact hi
    ·exact hb x hx)
   simp only [List.length_cons] at this
   omega
 | fuel+1,t,listed,p,hsz,hl,hn,hb,hf=>by
  simp only [Region.linearise.go]
  generalize hrs:((List.range ops.size).filter fun i=> !listed.getD i true && ((ops[i]?).map (·.after.all fun e=> !Region.binds md e || listed.getD e.on false)).getD false)=rs
  have aAA:∀ j,listed.getD j false=true↔j∈p:=by
   intro j
   by_cases hj:j<ops.size
   ·rw [← hl j hj]
    simp only [Array.getD_eq_getD_getElem?]
    rw [Array.getElem?_eq_getElem (by omega)]
    simp
   ·have:listed[j]? =none:=Array.getElem?_eq_none (by omega)
    simp only [Array.getD_eq_getD_getElem?,this]
    exact ⟨fun h=>absurd h (by simp),fun h=>absurd (hb j h) hj⟩
  have aaA:∀ i,i∈rs↔(i<ops.size∧i∉p∧∃ o,ops[i]? =some o∧∀ e∈o.after,Region.binds md e=true→e.on∈p):=by
   intro i
   rw [← hrs,List.mem_filter,List.mem_range]
   refine and_congr_right fun hi=> ?_
   have ho:ops[i]? =some ops[i]:=Array.getElem?_eq_getElem hi
   simp only [Bool.and_eq_true,Bool.not_eq_true',ho,Option.map_some,Option.getD_some]
   have e1:listed.getD i true=false↔i∉p:=by rw [← hl i hi]; simp
   rw [e1]
   refine and_congr_right fun _=> ?_
   have key:∀ e∈ops[i].after,((!Region.binds md e || listed.getD e.on false)=true↔(Region.binds md e=true→e.on∈p)):=by
    intro e _
    rw [Bool.or_eq_true,aAA]
    cases Region.binds md e<;>simp
   rw [Array.all_eq_true']
   exact ⟨fun hx=>⟨_,rfl,fun e he=>(key e he).1 (hx e he)⟩,fun ⟨o,hoo,hx⟩ e he=>by
    obtain rfl:=Option.some.inj hoo
    exact (key e he).2 (hx e he)⟩
  cases hr:rs[t % rs.length]? with
  | none=>
   have hnil:rs=[]:=by
    cases rs with
    | nil=>rfl
    | cons x xs=>
     have hlt:t % (x::xs).length<(x::xs).length:=Nat.mod_lt _ (by simp)
     have:=List.getElem?_eq_none_iff.1 hr
     omega
   refine ⟨.nil _,fun i hi=> ?_⟩
   simp only [List.reverse_nil,List.append_nil]
   obtain ⟨L,hL⟩:=h
   refine MJ (md:=md) (p:=p) (fun j o hj hm=> ?_) L [] hL (fun y hy=>by cases hy) i (by simpa using hi)
   refine Classical.byContradiction fun hno=> ?_
   have hjs:j<ops.size:=by
    have:=(List.getElem?_eq_some_iff.1 hj).1
    simpa using this
   have hin:j∈rs:=(aaA j).2 ⟨hjs,hm,o,by rw [← Array.getElem?_toList]; exact hj,fun e he hbe=>Classical.byContradiction fun hne=>hno ⟨e,he,hbe,hne⟩⟩
   rw [hnil] at hin
   cases hin
  | some i=>
   simp only []
   rw [linearise_go_acc,List.reverse_singleton,List.singleton_append]
   obtain ⟨hi,hm,o,ho,he⟩:=(aaA i).1 (List.mem_of_getElem? hr)
   obtain ⟨g1,g2⟩:=aaX h fuel (t / rs.length) (listed.setIfInBounds i true) (p++[i]) (by simpa using hsz) (fun j hj=>by
    simp only [Array.getD_eq_getD_getElem?,Array.getElem?_setIfInBounds]
    split
    ·rename_i e; subst e; rw [if_pos (by omega)]; simp
    ·rename_i e
     have:=hl j hj
     rw [Array.getD_eq_getD_getElem?] at this
     rw [this]; simp [Ne.symm e])
    (by rw [List.nodup_append]; exact ⟨hn,by simp,fun a ha b hb'=>by
     have:b=i:=by simpa using hb'
     subst this; rintro rfl; exact hm ha⟩)
    (fun j hj=>by
     rcases List.mem_append.1 hj with hj | hj
     ·exact hb j hj
     ·have:j=i:=by simpa using hj
      omega) (by simp; omega)
   exact ⟨.cons (by rw [Array.getElem?_toList]; exact ho) hm (fun e he' hbe=>he e he' (Yl hbe)) g1,fun j hj=>by simpa using g2 j hj⟩
def O9 (ops:List Oper):Bool:=
 Ac .any ops [] (List.range ops.length) && (!(ops.any fun x=>x.after.toList.any fun e=> !Region.binds .any e) || (Ac .text ops [] (ahi .text ops ops.length [] (List.range ops.length)) && Ac .gc ops [] (ahi .gc ops ops.length [] (List.range ops.length))))
theorem Ij (h:O9 ops.toList=true) (mixed:Bool) (t:Nat):Ord ops.toList [] (Region.schedule mixed ops t)∧∀ i,i<ops.size→i∈Region.schedule mixed ops t:=by
 simp only [O9,Bool.and_eq_true] at h
 obtain ⟨h1,h2⟩:=h
 have gen:∀ (md:Region.Mode) (t:Nat),Goes md ops.toList→Ord ops.toList [] (Region.linearise md ops t)∧∀ i,i<ops.size→i∈Region.linearise md ops t:=by
  intro md t hg
  obtain ⟨g1,g2⟩:=aaX hg ops.size t (Array.replicate ops.size false) [] (by simp) (fun j hj=>by simp [Array.getD_eq_getD_getElem?,hj]) (by simp) (by simp) (by simp)
  refine ⟨g1,fun i hi=> ?_⟩
  have:=g2 i hi
  rwa [List.nil_append] at this
 unfold Region.schedule
 split
 ·exact gen .any t ⟨_,h1⟩
 ·rename_i hne
  have hd:Region.departs ops=true:=by
   cases hd:Region.departs ops with
   | true=>rfl
   | false=>rw [hd] at hne; simp at hne
  have hd2:(ops.toList.any fun x=>x.after.toList.any fun e=> !Region.binds .any e)=true:=by
   simp only [Region.departs] at hd
   simpa using hd
  rw [hd2] at h2
  simp only [Bool.not_true,Bool.false_or,Bool.and_eq_true] at h2
  split
  ·exact gen .text _ ⟨_,h2.1⟩
  ·exact gen .gc _ ⟨_,h2.2⟩
end
section
variable {ty:iE} {tb:oC} {nt:Nat} {ops:List Oper} {st:St}
theorem Gq:∀ (r p:List Oper),ops=p++r→(iy ty tb nt (ops.map (·.dst)) r (dS ty tb nt ops st p.length)).2=dS ty tb nt ops st ops.length∧
 ((iy ty tb nt (ops.map (·.dst)) r (dS ty tb nt ops st p.length)).1→∀ i o,p.length≤i→ops[i]? =some o→(eP ty tb nt (ops.map (·.dst)) o (dS ty tb nt ops st i)).1)
 | [],p,h=>by
  have hl:ops.length=p.length:=by rw [h]; simp
  refine ⟨by simp only [iy,hl],fun _ i o hi ho=> ?_⟩
  have:=(List.getElem?_eq_some_iff.1 ho).1
  omega
 | o::r,p,h=>by
  have ho:ops[p.length]? =some o:=by rw [h,List.getElem?_append_right (Nat.le_refl _)]; simp
  have hs:dS ty tb nt ops st ((p++[o]).length)=(eP ty tb nt (ops.map (·.dst)) o (dS ty tb nt ops st p.length)).2:=by simp [dS,ho]
  obtain ⟨g1,g2⟩:=Gq r (p++[o]) (by rw [h]; simp)
  rw [hs] at g1 g2
  refine ⟨by simp only [iy]; exact g1,fun hx i o' hi ho'=> ?_⟩
  simp only [iy] at hx
  by_cases e:i=p.length
  ·subst e; rw [ho] at ho'; obtain rfl:=Option.some.inj ho'; exact hx.1
  ·exact g2 hx.2 i o' (by simp; omega) ho'
abbrev qo:=List tX×List tX
def foots (ty:iE) (tb:oC) (nt:Nat) (ds:List (Option Nat)):List Oper→St→List qo
 | [],_=>[]
 | o::r,st=>((eG ty tb ds o).log st,writes o.dst ((eG ty tb ds o).run st))::foots ty tb nt ds r (eP ty tb nt ds o st).2
theorem Gn:∀ (r p:List Oper) (i:Nat),ops=p++r→i<r.length→(foots ty tb nt (ops.map (·.dst)) r (dS ty tb nt ops st p.length))[i]? =some (oK ty tb nt ops st (p.length+i),eY ty tb nt ops st (p.length+i))
 | [],_,_,_,hi=>absurd hi (by simp)
 | o::r,p,i,h,hi=>by
  have ho:ops[p.length]? =some o:=by rw [h,List.getElem?_append_right (Nat.le_refl _)]; simp
  have hs:dS ty tb nt ops st ((p++[o]).length)=(eP ty tb nt (ops.map (·.dst)) o (dS ty tb nt ops st p.length)).2:=by simp [dS,ho]
  cases i with
  | zero=>simp [foots,oK,eY,ho]
  | succ i=>
   have:=Gn r (p++[o]) i (by rw [h]; simp) (by simpa using hi)
   rw [hs] at this
   simp only [foots,List.getElem?_cons_succ]
   rw [this]
   simp [Nat.add_assoc,Nat.add_comm 1 i]
def ceq:tX→tX→Bool
 | .slot a,.slot b=>a == b
 | .box a,.box b=>a == b
 | .lab a,.lab b=>a == b
 | _,_=>false
theorem abE {a b:tX}:ceq a b=true↔a=b:=by cases a<;>cases b<;>simp [ceq]
def meets (l r:List tX):Bool:=l.any fun a=>r.any fun b=>ceq a b
theorem vT {l r:List tX} {c:tX} (h1:c∈l) (h2:c∈r):meets l r=true:=by
 simp only [meets,List.any_eq_true]
 exact ⟨c,h1,c,h2,abE.2 rfl⟩
def clash (g f:qo):Bool:=meets g.2 f.1 || meets g.2 f.2 || meets g.1 f.2
def F6 (cl:List Nat) (f:qo):Nat→List qo→Bool
 | _,[]=>true
 | k,g::r=>(cl.contains k || !clash g f) && F6 cl f (k+1) r
def clo (prev:List (List Nat)) (es:List Edge):List Nat:=es.flatMap fun e=>if Region.binds .any e=true then e.on::prev.getD e.on [] else []
def chk (prev:List (List Nat)) (pf:List qo):List Oper→List qo→Bool
 | [],[]=>true
 | o::r,f::fs=>F6 (clo prev o.after.toList) f 0 pf && chk (prev++[clo prev o.after.toList]) (pf++[f]) r fs
 | _,_=>false
theorem CX {cl : List Nat} {f : qo} : ∀ {l : List qo} {k : Nat}, F6 cl f k l = true → ∀ i g, l[i]? = some g → k + i ∈ cl ∨ clash g f = false
  | [], _, _, i, g, hg => by simp at hg
  | x :: r, k, h, i, g, hg => by
    simp only [F6, Bool.and_eq_true, Bool.or_eq_true, Bool.not_eq_true', List.contains_iff_mem] at h
    cases i with
    | zero => obtain rfl : x = g := by simpa using hg
              exact h.1
    | succ i =>
      rcases CX h.2 i g (by simpa using hg) with h' | h'
      · exact .inl (by have e : k + (i + 1) = k + 1 + i := by omega
                       rw [e]; exact h')
      · exact .inr h'
theorem ND {fts:List qo}:∀ (r p:List Oper) (prev:List (List Nat)) (pf fs:List qo),ops=p++r→fts=pf++fs→prev.length=p.length→pf.length=p.length→
 (∀ (k:Nat) (cl:List Nat),prev[k]? =some cl→∀ x∈cl,Pre ops x k)→chk prev pf r fs=true→
 ∀ (j:Nat) (o:Oper),p.length≤j→ops[j]? =some o→∀ (i:Nat) (g f:qo),i<j→fts[i]? =some g→fts[j]? =some f→Pre ops i j∨clash g f=false
 | [],p,prev,pf,fs,hop,hft,hpl,hfl,hcl,hc,j,o,hj,ho=>by
  have:=(List.getElem?_eq_some_iff.1 ho).1
  rw [hop] at this
  simp at this; omega
 | x::r,p,prev,pf,[],hop,hft,hpl,hfl,hcl,hc,j,o,hj,ho=>by simp [chk] at hc
 | x::r,p,prev,pf,f0::fs,hop,hft,hpl,hfl,hcl,hc,j,o,hj,ho=>by
  have hx:ops[p.length]? =some x:=by rw [hop,List.getElem?_append_right (Nat.le_refl _)]; simp
  simp only [chk,Bool.and_eq_true] at hc
  obtain ⟨c2,c3⟩:=hc
  have atv:∀ y∈clo prev x.after.toList,Pre ops y p.length:=by
   intro y hy
   simp only [clo,List.mem_flatMap] at hy
   obtain ⟨e,he,hy⟩:=hy
   have he':=Array.mem_toList_iff.1 he
   split at hy
   case isFalse=>cases hy
   rename_i hb
   rcases List.mem_cons.1 hy with rfl | hy
   ·exact .edge hx he' hb rfl
   ·cases hp:prev[e.on]? with
    | none=>rw [List.getD_eq_getElem?_getD,hp] at hy; simp at hy
    | some cl=>
     rw [List.getD_eq_getElem?_getD,hp] at hy
     exact .step (hcl _ _ hp y hy) (.edge hx he' hb rfl)
  by_cases e:j=p.length
  ·subst e
   rw [hx] at ho; obtain rfl:=Option.some.inj ho
   intro i g f hi hg hf
   rw [hft,List.getElem?_append_left (by omega)] at hg
   rw [hft, ← hfl,List.getElem?_append_right (Nat.le_refl _)] at hf
   obtain rfl:f0=f:=by simpa using hf
   rcases CX c2 i g hg with h | h
   ·rw [Nat.zero_add] at h; exact .inl (atv i h)
   ·exact .inr h
  ·refine ND r (p++[x]) _ (pf++[f0]) fs (by rw [hop]; simp) (by rw [hft]; simp) (by simp [hpl]) (by simp [hfl]) (fun k cl hk=> ?_) c3 j o (by simp; omega) ho
   rcases Nat.lt_or_ge k prev.length with h | h
   ·rw [List.getElem?_append_left h] at hk; exact hcl k cl hk
   ·rw [List.getElem?_append_right h] at hk
    have hk0:k - prev.length=0:=by
     have:=(List.getElem?_eq_some_iff.1 hk).1
     simpa using this
    rw [hk0] at hk
    obtain rfl:clo prev x.after.toList=cl:=by simpa using hk
    have:k=p.length:=by omega
    rw [this]; exact atv
end
def drawn (ty:iE) (tb:oC) (nt:Nat) (ops:List Oper) (st:St):Prop:=
 O9 ops=true∧chk [] [] ops (foots ty tb nt (ops.map (·.dst)) ops st)=true
theorem aT {P:Program} {ty:iE} {tb:oC} {n:Nat} (hty:iw P ty) (htb:fC P tb) (cx:Cx) (hn:cx.nt=n):tV P ty tb cx (drawn ty tb n):=by
 subst hn
 intro ρ id ops st Q m a w R aV hd hQ
 obtain ⟨hord,hd⟩:=hd
 have hspec:=ND (ops:=ops.toList) (fts:=foots ty tb cx.nt (ops.toList.map (·.dst)) ops.toList st) ops.toList [] [] [] (foots ty tb cx.nt (ops.toList.map fun o=>o.dst) ops.toList st) rfl rfl rfl rfl (fun k cl h=>by simp at h) hd
 have hfg:=fun i (hi:i<ops.toList.length)=>Gn (ty:=ty) (tb:=tb) (nt:=cx.nt) (ops:=ops.toList) (st:=st) ops.toList [] i rfl hi
 have hlt:∀ j c,c∈eY ty tb cx.nt ops.toList st j→j<ops.toList.length:=by
  intro j c hc
  cases ho:ops.toList[j]? with
  | none=>simp [eY,ho] at hc
  | some o=>exact (List.getElem?_eq_some_iff.1 ho).1
 have aAz:∀ j c,c∈oK ty tb cx.nt ops.toList st j→j<ops.toList.length:=by
  intro j c hc
  cases ho:ops.toList[j]? with
  | none=>simp [oK,ho] at hc
  | some o=>exact (List.getElem?_eq_some_iff.1 ho).1
 have hfree:Free ty tb cx.nt ops.toList st:=by
  intro i j c hij hcl
  have hj:j<ops.toList.length:=by
   rcases hcl with ⟨_,h | h⟩ | ⟨_,h⟩
   ·exact aAz j c h
   ·exact hlt j c h
   ·exact hlt j c h
  have hg:=hfg i (by omega)
  have hf:=hfg j hj
  simp only [List.length_nil,Nat.zero_add] at hg hf
  rcases hspec j _ (Nat.zero_le _) (List.getElem?_eq_getElem hj) i _ _ hij hg hf with h | h
  ·exact h
  ·simp only [clash,Bool.or_eq_false_iff] at h
   rcases hcl with ⟨h1,h2 | h2⟩ | ⟨h1,h2⟩
   ·rw [vT h1 h2] at h; simp at h
   ·rw [vT h1 h2] at h; simp at h
   ·rw [vT h1 h2] at h; simp at h
 obtain ⟨e1,e2⟩:=Gq (ty:=ty) (tb:=tb) (nt:=cx.nt) (ops:=ops.toList) (st:=st) ops.toList [] rfl
 have e2':=e2 aV
 simp only [List.length_nil,dS] at e1
 refine wpIn_region_draw fun t=> ?_
 obtain ⟨o1,o2⟩:=Ij hord (P.follows .mixedOrders) t
 have hl0:Last ty tb cx.nt ops.toList st (· ∈([]:List Nat)) st:=fun c=> .inr ⟨fun j h=>by simp at h,rfl⟩
 obtain ⟨g1,g2⟩:=aeA hfree (fun i o ho=>e2' i o (Nat.zero_le _) ho) o1 st (fun i j h=>by simp at h) hl0
 refine yT hty htb _ st m a _ (R.drawn _) g1 (fun m' a' w' R'=>hQ m' a' w' ?_)
 have hall:∀ c,(ku ty tb cx.nt ops.toList (Region.schedule (P.follows .mixedOrders) ops t) st).2.get c=(dS ty tb cx.nt ops.toList st ops.toList.length).get c:=by
  intro c
  refine g2.agree (xM _) (fun j hw=> ?_)
  have:=hlt j c hw
  exact ⟨fun _=>this,fun _=>by simpa using o2 j (by simpa using this)⟩
 rw [e1]
 refine Rel.alike R' (fun k=> ?_) (fun k=> ?_) (fun k=> ?_)
 ·have:=hall (.slot k); simp only [St.get,CV.slot.injEq] at this; exact this.symm
 ·have:=hall (.box k); simp only [St.get,CV.box.injEq] at this; exact this.symm
 ·have:=hall (.lab k); simp only [St.get,CV.lab.injEq] at this; exact this.symm
end Go.dG
set_option linter.unusedVariables false
set_option linter.unusedSimpArgs false
namespace Go.dG
theorem kJ {k:Nat} {f g:Option eX→Rd Out} (h0:f none=g none) (h1:f (some .dead)=g (some .dead)) (h2:∀ x,f (some (.owned x))=g (some (.owned x))) (h3:∀ x,f (some (.shared x))=g (some (.shared x))) (h4:∀ x,f (some (.deep x))=g (some (.deep x)):=by intros; rfl) (h5:∀ x,f (some (.set x))=g (some (.set x)):=by intros; rfl):(Rd.lab k f)= .lab k g:=by
 congr 1; funext x; rcases x with _ | x
 ·exact h0
 ·cases x
  ·exact h1
  ·exact h2 _
  ·exact h3 _
  ·exact h4 _
  ·exact h5 _
theorem yD {k:Nat} {f g:Option (List AC)→Rd Out} (h0:f none=g none) (h1:∀ x,f (some x)=g (some x)):(Rd.box k f)= .box k g:=by
 congr 1; funext x; rcases x with _ | x
 ·exact h0
 ·exact h1 _
def LM {α:Type} (f:List α→Rd Out) (v:α) (vs:List α):Rd Out:=f (v::vs)
def agm (r:List Operand) (f:List AV→Rd Out) (v:AV):Rd Out:=oD r (LM f v)
theorem Zz (f:List AV→Rd Out):oD [] f=f []:=rfl
theorem Xc (x:Operand) (r:List Operand) (f:List AV→Rd Out):oD (x::r) f=dW x (agm r f):=rfl
def kD (f:D→Rd Out):Option eX→Rd Out
 | some (.owned x)=>f x
 | some (.shared x)=>f x
 | _=>bad
theorem alm (x:D) (f:D→Rd Out):Fv (.d x) f=f x:=rfl
theorem YE (l:List D) (f:D→Rd Out):Fv (.dK l 0) f=f (.pt true l):=rfl
theorem ac4 (g:Nat) (f:D→Rd Out):Fv (.clo g []) f=f (.fn g):=rfl
theorem YF (f:D→Rd Out):Fv .dD f=f (.sl 0 0 fun _=>[]):=rfl
theorem RQ (k:Nat) (f:D→Rd Out):Fv (.own k) f= .lab k (kD f):=by
 exact kJ rfl rfl (fun _=>rfl) (fun _=>rfl)
def kDs (r:List AC) (f:List D→Rd Out) (d:D):Rd Out:=oW r (LM f d)
theorem YD (f:List D→Rd Out):oW [] f=f []:=rfl
theorem V8 (x:AC) (r:List AC) (f:List D→Rd Out):oW (x::r) f=Fv x (kDs r f):=rfl
def as3 (f:List D→Rd Out):Option (List AC)→Rd Out
 | some cs=>oW cs f
 | none=>bad
theorem X6 (b:Nat) (f:List D→Rd Out):Ei (.ref b 0) f= .box b (as3 f):=by
 exact yD rfl (fun _=>rfl)
theorem QG (l:List D) (f:List D→Rd Out):Ei (.dK l 0) f=f l:=rfl
def agr (r:List Cap) (f:List (List D)→Rd Out) (d:List D):Rd Out:=kX r (LM f d)
theorem QF (f:List (List D)→Rd Out):kX [] f=f []:=rfl
theorem NH (x:Cap) (r:List Cap) (f:List (List D)→Rd Out):kX (x::r) f=Ei x (agr r f):=rfl
def Vp (f:Arg→Rd Out) (d:D):Rd Out:=f (.c d)
def agw (f:Arg→Rd Out) (d:List D):Rd Out:=f (.agg d)
def agv (g:Nat) (f:Arg→Rd Out) (ds:List (List D)):Rd Out:=f (.clo g ds)
theorem Wj (g:Nat) (caps:List Cap) (f:Arg→Rd Out):toArg (.u (.c (.clo g caps))) f=kX caps (agv g f):=rfl
theorem ac5 (x:D) (f:Arg→Rd Out):toArg (.u (.c (.d x))) f=f (.c x):=rfl
theorem Oy (l:List D) (f:Arg→Rd Out):toArg (.u (.c (.dK l 0))) f=f (.c (.pt true l)):=rfl
def as8 (f:D→Rd Out) (s n:Nat) (ds:List D):Rd Out:=f (D.ofList s (chunks s ds n))
theorem ajZ (off n s:Nat) (cs:List AC) (f:D→Rd Out):abY off n s cs f=if off+n*s≤cs.length∧0<s then oW ((cs.drop off).take (n*s)) (as8 f s n) else bad:=rfl
def as5 (off n s:Nat) (f:Arg→Rd Out):Option (List AC)→Rd Out
 | some cs=>abY off n s cs (Vp f)
 | none=>bad
theorem Wn (b off n s:Nat) (f:Arg→Rd Out):toArg (.u (.c (.uF b off n s))) f= .box b (as5 off n s f):=yD rfl (fun _=>rfl)
theorem Oz (f:Arg→Rd Out):toArg (.u (.c .dD)) f=f (.c (.sl 0 0 fun _=>[])):=rfl
theorem Wi (k:Nat) (f:Arg→Rd Out):toArg (.u (.c (.own k))) f= .lab k (kD (Vp f)):=by
 show Fv (.own k) (fun d=>f (.c d))=_
 rw [RQ]; rfl
theorem Wp (l:List AC) (f:Arg→Rd Out):toArg (.u (.agg l)) f=oW l (agw f):=rfl
def agu (r:List AV) (f:List Arg→Rd Out) (a:Arg):Rd Out:=lD r (LM f a)
theorem Ox (f:List Arg→Rd Out):lD [] f=f []:=rfl
theorem J9 (x:AV) (r:List AV) (f:List Arg→Rd Out):lD (x::r) f=toArg x (agu r f):=rfl
def Vl (n nm:Nat) (f:Nat→Rd Out):Option eX→Rd Out | none=>f nm | some _=>oM n (nm+100000) f
theorem F7 (n nm:Nat) (f:Nat→Rd Out):oM (n+1) nm f= .lab nm (Vl n nm f):=by
 exact kJ rfl rfl (fun _=>rfl) (fun _=>rfl)
theorem ZH (nm:Nat) (f:Nat→Rd Out):fF nm f= .lab nm (Vl 7 nm f):=F7 7 nm f
def I4 (n nm:Nat) (f:Nat→Rd Out):Option (List AC)→Rd Out | none=>f nm | some _=>oN n (nm+100000) f
theorem F8 (n nm:Nat) (f:Nat→Rd Out):oN (n+1) nm f= .box nm (I4 n nm f):=by
 exact yD rfl (fun x=>rfl)
theorem ZI (nm:Nat) (f:Nat→Rd Out):jC nm f= .box nm (I4 7 nm f):=F8 7 nm f
def aiK (k:Nat) (x:D) (f:List Wr→Rd Out) (ws:List Wr):Rd Out:=f (.lab k (.shared x)::ws)
def kSh (k:Nat) (r:List AC) (f:List Wr→Rd Out):Option eX→Rd Out
 | some (.owned x)=>bH r (aiK k x f)
 | some (.shared _)=>bH r f
 | _=>bad
theorem EL (f:List Wr→Rd Out):bH [] f=f []:=rfl
theorem EK (k:Nat) (r:List AC) (f:List Wr→Rd Out):bH (.own k::r) f= .lab k (kSh k r f):=by
 exact kJ rfl rfl (fun _=>rfl) (fun _=>rfl)
theorem Kw (x:D) (r:List AC) (f:List Wr→Rd Out):bH (.d x::r) f=bH r f:=rfl
theorem BN (r:List AC) (f:List Wr→Rd Out):bH (.dD::r) f=bH r f:=rfl
theorem BM (l:List D) (off:Nat) (r:List AC) (f:List Wr→Rd Out):bH (.dK l off::r) f=bH r f:=rfl
theorem EJ (b off:Nat) (r:List AC) (f:List Wr→Rd Out):bH (.ref b off::r) f=bH r f:=rfl
theorem EM (g:Nat) (c:List Cap) (r:List AC) (f:List Wr→Rd Out):bH (.clo g c::r) f=bH r f:=rfl
def Z9 (p:Prop) (x:D) (ws:List Wr) (k:Nat):Rd Out:= .ret ⟨p,.c (.own k),ws++[.lab k (.owned x)]⟩
theorem Pj (nm:Nat) (p:Prop) (x:D) (ws:List Wr):uQ true nm p x ws=fF nm (Z9 p x ws):=rfl
theorem Lr (nm:Nat) (p:Prop) (x:D):uQ false nm p x []= .ret ⟨p,.c (.d x),[]⟩:=rfl
def aah (i:TI) (off:Nat):Option (List AC)→Rd Out
 | some cs=>gU i off cs
 | none=>bad
def Py (i:TI) (j off:Nat):Option eX→Rd Out
 | some (.owned x)=>gU i off ((x.nth j).map .d)
 | some (.shared x)=>gU i off ((x.nth j).map .d)
 | _=>bad
def aai (i:TI):AV→Rd Out
 | .u (.c (.ref b off))=> .box b (aah i off)
 | .u (.c (.gQ k j off))=> .lab k (Py i j off)
 | .u (.c (.dK l off))=>gU i off (l.map .d)
 | .u (.c (.d (.pt b l)))=>Gf i b l
 | .u (.c (.glob g off))=>Vh i g off
 | _=>bad
def aaj:Option TI→AV→Rd Out
 | some i,a=>aai i a
 | none,_=>bad
theorem abd (ty:iE) (t:Nat) (a:AV):iI ty t a=aaj (ty t) a:=by
 unfold iI aaj
 cases ty t with
 | none=>cases a<;>rfl
 | some i=>
  cases a with
  | u a=>cases a with
   | c a=>cases a<;>first | rfl | exact yD rfl (fun _=>rfl) | exact kJ rfl rfl (fun _=>rfl) (fun _=>rfl) | (rename_i x; cases x<;>rfl)
   | agg l=>rfl
  | _=>rfl
def asi (i:TI) (b off:Nat) (v:AU):Option (List AC)→Rd Out
 | some cs=> .ret ⟨v.cells.length=i.size∧v.solid=true∧off+v.cells.length≤cs.length,default,[.box b (splice cs off v.cells)]⟩
 | none=>bad
def aga (i:TI) (k j off:Nat) (v:AU) (x:D):Option (List D)→Rd Out
 | some ds=> .ret ⟨v.cells.length=i.size∧v.solid=true∧off+v.cells.length≤x.stride,default,[.lab k (.owned (x.setAt j off ds))]⟩
 | none=>bad
def aiJ (i:TI) (k j off:Nat) (v:AU):Option eX→Rd Out
 | some (.owned x)=>aga i k j off v x (mZ v.cells)
 | _=>bad
def asj (i:TI) (v:AU):AV→Rd Out
 | .u (.c (.ref b off))=> .box b (asi i b off v)
 | .u (.c (.gQ k j off))=> .lab k (aiJ i k j off v)
 | _=>bad
def kSt (a:AV):Option TI→AV→Rd Out
 | some i,.u v=>asj i v a
 | _,_=>bad
theorem Xz (ty:iE) (t:Nat) (a v:AV):kL ty t a v=kSt a (ty t) v:=by
 unfold kL kSt
 cases ty t with
 | none=>cases v<;>rfl
 | some i=>
  cases v with
  | u v=>cases a with
   | u a=>cases a with
    | c a=>cases a<;>first | rfl | exact yD rfl (fun _=>rfl) | (refine kJ rfl rfl (fun x=> ?_) (fun _=>rfl); simp only [aiJ]; cases mZ v.cells<;>rfl)
    | agg l=>rfl
   | _=>rfl
  | _=>rfl
def ai2 (k i o:Nat):Option eX→Rd Out
 | some (.owned _)=>pX (.c (.gQ k i o))
 | some (.shared _)=>pX (.c (.gQ k i o))
 | _=>bad
def as1 (o:Nat):AV→Rd Out
 | .u (.c (.ref b off))=>pX (.c (.ref b (off+o)))
 | .u (.c (.gQ k i off))=> .lab k (ai2 k i (off+o))
 | .u (.c (.dK l off))=>pX (.c (.dK l (off+o)))
 | .u (.c (.d (.pt b l)))=> .ret ⟨b=true,.c (.dK l o),[]⟩
 | _=>bad
def kFa (a:AV):Option (Nat×TI)→Rd Out
 | some p=>as1 p.1 a
 | none=>bad
theorem Fb (ty:iE) (s f:Nat) (a:AV):jK ty s f a=kFa a (mD ty s f):=by
 unfold jK kFa
 cases mD ty s f with
 | none=>cases a<;>rfl
 | some p=>
  cases a with
  | u a=>cases a with
   | c a=>cases a<;>first | rfl | exact kJ rfl rfl (fun _=>rfl) (fun _=>rfl) | (rename_i x; cases x<;>rfl)
   | agg l=>rfl
  | _=>rfl
def kIx (k:Nat) (i:Int) (e:TI):Option eX→Rd Out
 | some (.owned x)=> .ret ⟨(0≤i∧i<x.len)∧x.stride=e.size,.c (.gQ k i.toNat 0),[]⟩
 | some (.shared x)=> .ret ⟨(0≤i∧i<x.len)∧x.stride=e.size,.c (.dK (x.nth i.toNat) 0),[]⟩
 | some (.deep x)=> .ret ⟨(0≤i∧i<x.len)∧x.stride=e.size,.c (.gQ k i.toNat 0),[]⟩
 | _=>bad
theorem AQ (ty:iE) (t k:Nat) (kd:IntKind) (i:Int):gW ty t (.u (.c (.own k))) (.u (.c (.d (.int kd i))))=
 match ty t,jL ty t with
 | some { desc:= .slice _,.. },some e=> .lab k (kIx k i e)
 | _,_=>bad:=by
 unfold gW
 cases ty t with
 | none=>rfl
 | some ti=>
  cases jL ty t with
  | none=>obtain ⟨_,_,_,_,d,_⟩:=ti; cases d<;>rfl
  | some e=>
   obtain ⟨_,_,_,_,d,_⟩:=ti
   cases d<;>first | rfl | exact kJ rfl rfl (fun _=>rfl) (fun _=>rfl)
def aiW (k j o:Nat) (p:Prop):Option eX→Rd Out
 | some (.owned _)=> .ret ⟨p,.c (.gQ k j o),[]⟩
 | some (.shared _)=> .ret ⟨p,.c (.gQ k j o),[]⟩
 | _=>bad
theorem y7 (ty:iE) (t k j off:Nat) (kd:IntKind) (i:Int):gW ty t (.u (.c (.gQ k j off))) (.u (.c (.d (.int kd i))))=
 match ty t,jL ty t with
 | some { desc:= .array n _,.. },some e=> .lab k (aiW k j (off+i.toNat*e.size) (0≤i∧i<n))
 | _,_=>bad:=by
 unfold gW
 cases ty t with
 | none=>rfl
 | some ti=>
  cases jL ty t with
  | none=>obtain ⟨_,_,_,_,d,_⟩:=ti; cases d<;>rfl
  | some e=>
   obtain ⟨_,_,_,_,d,_⟩:=ti
   cases d<;>first | rfl | exact kJ rfl rfl (fun _=>rfl) (fun _=>rfl)
theorem aiV (k j o:Nat) (p:Prop) (x:D):aiW k j o p (some (.owned x))= .ret ⟨p,.c (.gQ k j o),[]⟩:=(rfl)
theorem aiU (k j o:Nat) (p:Prop) (x:D):aiW k j o p (some (.shared x))= .ret ⟨p,.c (.gQ k j o),[]⟩:=(rfl)
theorem asW (k:Nat) (i:Int) (e:TI) (x:D):kIx k i e (some (.owned x))= .ret ⟨(0≤i∧i<x.len)∧x.stride=e.size,.c (.gQ k i.toNat 0),[]⟩:=(rfl)
theorem asV (k:Nat) (i:Int) (e:TI) (x:D):kIx k i e (some (.shared x))= .ret ⟨(0≤i∧i<x.len)∧x.stride=e.size,.c (.dK (x.nth i.toNat) 0),[]⟩:=(rfl)
theorem asX (k:Nat) (i:Int) (e:TI) (x:D):kIx k i e (some (.deep x))= .ret ⟨(0≤i∧i<x.len)∧x.stride=e.size,.c (.gQ k i.toNat 0),[]⟩:=(rfl)
def as9 (lin:Bool) (nm len:Nat) (i:TI) (ws:List Wr) (ds:List D):Rd Out:=
 uQ lin nm (len*i.size≤16777216∧i.zero.length=i.size∧0<i.size) (D.ofList i.size (chunks i.size ds len)) ws
def ata (lin:Bool) (nm len:Nat) (i:TI) (cs:List AC) (ws:List Wr):Rd Out:=rG cs (as9 lin nm len i ws)
theorem Ot (f:List D→Rd Out):rG [.dD] f=f [.nl]:=(rfl)
theorem Wh (f:List D→Rd Out):rG [] f=oW [] f:=(rfl)
theorem ac3 (x:D) (f:List D→Rd Out):rG [.d x] f=oW [.d x] f:=(rfl)
theorem V9 (k:Nat) (f:List D→Rd Out):rG [.own k] f=oW [.own k] f:=(rfl)
theorem Oq (l:List D) (o:Nat) (f:List D→Rd Out):rG [.dK l o] f=oW [.dK l o] f:=(rfl)
theorem Ou (x y:AC) (r:List AC) (f:List D→Rd Out):rG (x::y::r) f=oW (x::y::r) f:=by cases x<;>rfl
def as6 (len:Nat) (i:TI) (cs:List AC) (b:Nat):Rd Out:= .ret ⟨(len*i.size≤16777216∧len*i.size≠0)∧cs.all AC.solid=true,.c (.uF b 0 len i.size),[.box b cs]⟩
def as7 (lin:Bool) (nm len:Nat) (i:TI) (cs:List AC):Bool→Bool→Rd Out
 | false,_=>bH cs (ata lin nm len i cs)
 | true,true=>jC nm (as6 len i cs)
 | true,false=>bad
theorem PX:jE []=false:=(rfl)
theorem PV (b o:Nat) (r:List AC):jE (.ref b o::r)=true:=(rfl)
theorem aaM (x:D) (r:List AC):jE (.d x::r)=jE r:=(rfl)
theorem Mc (r:List AC):jE (.dD::r)=jE r:=(rfl)
theorem PW (k:Nat) (r:List AC):jE (.own k::r)=jE r:=(rfl)
theorem L9 (l:List D) (o:Nat) (r:List AC):jE (.dK l o::r)=jE r:=(rfl)
theorem PY (f:Nat) (c:List Cap) (r:List AC):jE (.clo f c::r)=jE r:=(rfl)
def kBs (lin:Bool) (nm len:Nat) (i:TI):Option (List AC)→Rd Out
 | some cs=>as7 lin nm len i cs (jE cs) lin
 | none=>bad
theorem DW (ty:iE) (lin:Bool) (nm t len:Nat) (parts:List (Nat×AV)):jf ty lin nm t len parts=
 match ty t with
 | some { desc:= .slice e,.. } =>
  match ty e with
  | some i=>kBs lin nm len i (iF (fun j=>some (j*i.size,i.size)) (xw (i.zero.map zO) len) parts)
  | none=>bad
 | _=>bad:=by
 unfold jf
 cases ty t with
 | none=>rfl
 | some ti=>
  obtain ⟨_,_,_,_,d,_⟩:=ti
  cases d<;>first | rfl | skip
  rename_i e
  simp only
  cases ty e with
  | none=>rfl
  | some i=>
   simp only [kBs]
   cases iF (fun j=>some (j*i.size,i.size)) (xw (i.zero.map zO) len) parts with
   | none=>rfl
   | some cs=>simp only; cases jE cs<;>cases lin<;>rfl
def aso (e:TI) (lo hi:Option AV) (max:Bool) (ws:List Wr) (d:D):Rd Out:=Gt e lo hi max d ws
def asq (e:TI) (x:AC) (lo hi:Option AV) (max:Bool) (ws:List Wr):Rd Out:=Fv x (aso e lo hi max ws)
def asn (e:TI) (n:Nat) (lo hi:Option AV) (max:Bool):AC→Rd Out
 | .ref b off=>
  match bound lo 0,bound hi n with
  | some l,some h=> .ret ⟨max=false∧(0≤l∧l≤h∧h≤n)∧l<n,.c (.uF b (off+l.toNat*e.size) (h.toNat - l.toNat) e.size),[]⟩
  | _,_=>bad
 | _=>bad
def asl (lo hi:Option AV) (max:Bool):AC→Rd Out
 | .d (.str s)=>
  match bound lo 0,bound hi s.size with
  | some l,some h=> .ret ⟨max=false∧0≤l∧l≤h∧h≤s.size,.c (.d (.str (s.extract l.toNat h.toNat))),[]⟩
  | _,_=>bad
 | _=>bad
theorem XA (ty:iE) (t:Nat) (x:AC) (lo hi:Option AV) (max:Bool):jM ty t (.u (.c x)) lo hi max=
 match ty t,jL ty t with
 | some { desc:= .slice _,.. },some e=>bH [x] (asq e x lo hi max)
 | some { desc:= .array n _,.. },some e=>asn e n lo hi max x
 | some { desc:= .string,.. },_=>asl lo hi max x
 | _,_=>bad:=by
 unfold jM
 cases ty t with
 | none=>rfl
 | some ti=>
  obtain ⟨_,_,_,_,d,_⟩:=ti
  cases jL ty t with
  | none=>cases d<;>first | rfl | (cases x<;>first | rfl | (rename_i y; cases y<;>rfl))
  | some e=>cases d<;>first | rfl | (cases x<;>first | rfl | (rename_i y; cases y<;>rfl))
def asT (d:D):Rd Out:= .ret ⟨d.cu=true,.c (.d (.int .i64 d.len)),[]⟩
def Vm:Option eX→Rd Out
 | some (.owned x)=> .ret ⟨x.cu=true,.c (.d (.int .i64 x.len)),[]⟩
 | some (.shared x)=> .ret ⟨x.cu=true,.c (.d (.int .i64 x.len)),[]⟩
 | some (.deep x)=> .ret ⟨x.cu=true,.c (.d (.int .i64 x.len)),[]⟩
 | _=>bad
theorem aeO (x:D):Vm (some (.owned x))= .ret ⟨x.cu=true,.c (.d (.int .i64 x.len)),[]⟩:=(rfl)
theorem aeN (x:D):Vm (some (.shared x))= .ret ⟨x.cu=true,.c (.d (.int .i64 x.len)),[]⟩:=(rfl)
theorem aeP (x:D):Vm (some (.deep x))= .ret ⟨x.cu=true,.c (.d (.int .i64 x.len)),[]⟩:=(rfl)
def aal (x:AV):Option TI→Rd Out
 | some { desc:= .slice _,.. } =>match x with
  | .u (.c (.uF _ _ n _))=>pX (.c (.d (.int .i64 n)))
  | .u (.c (.own k))=> .lab k Vm
  | .u (.c x)=>Fv x asT
  | _=>bad
 | some { desc:= .string,.. } =>match x with
  | .u (.c (.d (.str s)))=>pX (.c (.d (.int .i64 s.size)))
  | _=>bad
 | _=>bad
theorem ae6 (ty:iE) (t:Nat) (x:AV):DT ty t x=aal x (ty t):=by
 unfold DT aal
 cases ty t with
 | none=>rfl
 | some ti=>
  obtain ⟨_,_,_,_,d,_⟩:=ti
  cases x with
  | u x=>cases x with
   | c x=>cases d<;>first | rfl | (cases x<;>first | rfl | (rename_i y; cases y<;>rfl))
   | agg l=>cases d<;>rfl
  | _=>cases d<;>rfl
def agz (e:TI) (d:D) (k:Nat):Rd Out:= .ret ⟨(d.cu=true∧(d.len≠0→d.stride=e.size))∧d.len*e.bytes≤140737488355328∧d.len≤9223372036854775807,.c (.own k),
 [.lab k (.owned (D.cat (.sl e.size 0 fun _=>[]) d))]⟩
def aao (e:TI) (j:Nat) (y:AC) (z d:D) (k:Nat):Rd Out:=
 .ret ⟨((d.cu=true∧(d.len≠0→d.stride=e.size))∧z.stride=e.size∧II y j)∧(z.len+d.len)*e.bytes≤140737488355328∧z.len+d.len≤9223372036854775807,
  .c (.own k),[.lab j .dead,.lab k (.owned (D.cat z d))]⟩
def aan (e:TI) (t j:Nat) (z d:D) (k:Nat):Rd Out:=
 .ret ⟨(d.cu=true∧d.len=1∧d.stride=e.size∧Xd d 0=[.nl]∧e.size=1)∧(z.len+1)*e.bytes≤140737488355328∧z.len+1≤9223372036854775807,
  .c (.own k),[.lab j .dead,.lab k (.deep (z.app [.sl t 0 fun _=>[]]))]⟩
def aap (e:TI) (t nm j:Nat) (y:AC) (d:D):Option eX→Rd Out
 | some (.owned z)=>fF nm (aao e j y z d)
 | some (.deep z)=>fF nm (aan e t j z d)
 | _=>bad
theorem Qr (e:TI) (t nm:Nat) (y:AC) (d:D):DX e t nm .dD y d=fF nm (agz e d):=rfl
theorem XH (e:TI) (t nm j:Nat) (y:AC) (d:D):DX e t nm (.own j) y d= .lab j (aap e t nm j y d):=kJ rfl rfl (fun _=>rfl) (fun _=>rfl)
def agy (e:TI) (z d:D) (k:Nat):Rd Out:=
 .ret ⟨((d.cu=true∧(d.len≠0→d.stride=e.size))∧(z.len≠0→z.stride=e.size)∧d.len≠0)∧(z.len+d.len)*e.bytes≤140737488355328∧z.len+d.len≤9223372036854775807,
  .c (.own k),[.lab k (.owned (if z.len=0 then D.cat (.sl e.size 0 fun _=>[]) d else D.cat z d))]⟩
theorem XI (e:TI) (t nm:Nat) (z:D) (y:AC) (d:D):DX e t nm (.VI z) y d=fF nm (agy e z d):=rfl
def agx (e:TI) (t nm:Nat) (s y:AC) (d:D):Rd Out:=DX e t nm s y d
theorem Qq (ty:iE) (nm t:Nat) (s y:AC):nY ty true nm t (.u (.c s)) (.u (.c y))=
 match ty t,jL ty t with
 | some { desc:= .slice _,.. },some e=>Fv y (agx e (uS ty e) nm s y)
 | _,_=>bad:=by
 unfold nY
 cases ty t with
 | none=>rfl
 | some ti=>
  obtain ⟨_,_,_,_,d,_⟩:=ti
  cases jL ty t with
  | none=>cases d<;>rfl
  | some e=>cases d<;>first | rfl | (cases x<;>rfl)
def aiL (x:D) (f:Nat→List AC→List (Nat×D)→Rd Out) (j:Nat) (cs:List AC) (ls:List (Nat×D)):Rd Out:=f j (.d x::cs) ls
def asv (k:Nat) (x:D) (f:Nat→List AC→List (Nat×D)→Rd Out) (j:Nat) (cs:List AC) (ls:List (Nat×D)):Rd Out:=f j (.own k::cs) ((k,x)::ls)
def kRc (nm j:Nat) (r:List RC) (x:D) (f:Nat→List AC→List (Nat×D)→Rd Out) (k:Nat):Rd Out:=eF true nm (j+1) r (asv k x f)
theorem Ir (lin:Bool) (nm j:Nat) (f:Nat→List AC→List (Nat×D)→Rd Out):eF lin nm j [] f=f j [] []:=rfl
theorem OM (lin:Bool) (nm j:Nat) (x:D) (r:List RC) (f:Nat→List AC→List (Nat×D)→Rd Out):eF lin nm j (.d x::r) f=eF lin nm j r (aiL x f):=rfl
theorem Iq (nm j:Nat) (x:D) (r:List RC) (f:Nat→List AC→List (Nat×D)→Rd Out):eF true nm j (.own x::r) f=fF (nm+10000*j) (kRc nm j r x f):=rfl
theorem EO (nm j:Nat) (x:D) (r:List RC) (f:Nat→List AC→List (Nat×D)→Rd Out):eF false nm j (.own x::r) f=eF false nm j r (aiL x f):=rfl
def agj (f:Nat→AU→List (Nat×D)→Rd Out) (j:Nat) (cs:List AC) (ls:List (Nat×D)):Rd Out:=f j (.c (cs.getD 0 .undef)) ls
def agk (f:Nat→AU→List (Nat×D)→Rd Out) (j:Nat) (cs:List AC) (ls:List (Nat×D)):Rd Out:=f j (.agg cs) ls
theorem adX (lin:Bool) (nm j:Nat) (x:RC) (f:Nat→AU→List (Nat×D)→Rd Out):zZ lin nm j (.c x) f=eF lin nm j [x] (agj f):=rfl
theorem WH (lin:Bool) (nm j:Nat) (x:List RC) (f:Nat→AU→List (Nat×D)→Rd Out):zZ lin nm j (.agg x) f=eF lin nm j x (agk f):=rfl
def agl (x:AU) (ls:List (Nat×D)) (f:List AU→List (Nat×D)→Rd Out) (xs:List AU) (ls':List (Nat×D)):Rd Out:=f (x::xs) (ls++ls')
def asw (lin:Bool) (nm:Nat) (rs:List RV) (f:List AU→List (Nat×D)→Rd Out) (j:Nat) (x:AU) (ls:List (Nat×D)):Rd Out:=o7 lin nm j rs (agl x ls f)
theorem OO (lin:Bool) (nm j:Nat) (f:List AU→List (Nat×D)→Rd Out):o7 lin nm j [] f=f [] []:=rfl
theorem KE (lin:Bool) (nm j:Nat) (r:RV) (rs:List RV) (f:List AU→List (Nat×D)→Rd Out):o7 lin nm j (r::rs) f=zZ lin nm j r (asw lin nm rs f):=rfl
def kCo (lin:Bool) (ws:List Wr) (p:Prop) (al:Bool) (as:List Arg) (xs:List AU) (ls:List (Nat×D)):Rd Out:=
 if lin=true∨ws.length=0 then
  .ret ⟨p∧(ls.map (·.1)).Nodup∧(al=true→jr as=true),zY xs,ws++ls.map fun p=> .lab p.1 (.owned p.2)⟩
 else bad
theorem Yc (sp:fD) (lin:Bool) (nm:Nat) (caps:List Cap) (as:List Arg) (ws:List Wr):ig sp lin nm caps as ws=o7 lin nm 0 (sp.res as) (kCo lin ws (sp.pre as) sp.alias as):=rfl
def kC3 (sp:fD) (lin:Bool) (nm:Nat) (caps:List Cap) (as:List Arg) (ws:List Wr):Rd Out:=ig sp lin nm caps as ws
def ai6 (sp:fD) (lin:Bool) (nm:Nat) (caps:List Cap) (args:List AV) (as:List Arg):Bool→Rd Out
 | true=>bH (bV args) (kC3 sp lin nm caps as)
 | false=>ig sp lin nm caps as []
def kC2 (sp:fD) (lin:Bool) (nm:Nat) (caps:List Cap) (args:List AV) (as:List Arg) (ds:List (List D)):Rd Out:=ai6 sp lin nm caps args (as++ds.map .ptr) sp.alias
def kC1 (sp:fD) (lin:Bool) (nm:Nat) (caps:List Cap) (args:List AV) (as:List Arg):Rd Out:=kX caps (kC2 sp lin nm caps args as)
def kC0 (lin:Bool) (nm:Nat) (caps:List Cap) (args:List AV):Option fD→Rd Out
 | none=>bad
 | some sp=>lD args (kC1 sp lin nm caps args)
theorem XG (tb:oC) (lin:Bool) (nm f:Nat) (caps:List Cap) (args:List AV):oQ tb lin nm f caps args=kC0 lin nm caps args (tb f):=by
 unfold oQ kC0
 cases tb f with
 | none=>rfl
 | some sp=>
  show lD args _=lD args _
  have h:∀ as,(kX caps fun ds=>if sp.alias then bH (bV args) fun ws=>ig sp lin nm caps (as++ds.map .ptr) ws else ig sp lin nm caps (as++ds.map .ptr) [])=kC1 sp lin nm caps args as:=fun as=>by
   have h2:∀ ds,(if sp.alias then bH (bV args) fun ws=>ig sp lin nm caps (as++ds.map .ptr) ws else ig sp lin nm caps (as++ds.map .ptr) [])=kC2 sp lin nm caps args as ds:=fun ds=>by
    simp only [kC2]
    cases h:sp.alias<;>rfl
   exact congrArg (kX caps) (funext h2)
  exact congrArg (lD args) (funext h)
section
variable (ty:iE) (tb:oC) (lin:Bool) (d:Option Nat) (T:TypeId) (p:String) (af:Array Edge) (g:Option (Nat×Bool))
theorem XC (x:Operand):fB ty tb lin ⟨d,.move x,T,p,af,g⟩=dW x pX:=rfl
theorem MZ (x:Operand):fB ty tb lin ⟨d,.assign x,T,p,af,g⟩=dW x pX:=rfl
def Z7 (b:Operand) (c a:AV):Rd Out:=dW b (qN c a)
def Z8 (a b:Operand) (c:AV):Rd Out:=dW a (Z7 b c)
theorem XB (c a b:Operand):fB ty tb lin ⟨d,.pick c a b,T,p,af,g⟩=dW c (Z8 a b):=rfl
def aaq (i:TI) (b:Nat):Rd Out:= .ret ⟨True,.c (.ref b 0),[.box b (i.zero.map zO)]⟩
def Vq (nm:Nat):Option TI→Rd Out
 | some i=>jC nm (aaq i)
 | none=>bad
theorem Qn (t:Nat):fB ty tb true ⟨d,.alloc t,T,p,af,g⟩=Vq (d.getD 0) (ty t):=by
 show (match true,ty t with | true,some i=>_ | _,_=>_)=_
 cases ty t<;>rfl
def agt (v:AU) (b:Nat):Rd Out:= .ret ⟨v.solid=true,.c (.ref b 0),[.box b v.cells]⟩
def atb (nm:Nat):AV→Rd Out
 | .u v=>jC nm (agt v)
 | _=>bad
theorem abb (t:Nat) (x:Operand):fB ty tb true ⟨d,.box t x,T,p,af,g⟩=dW x (atb (d.getD 0)):=by
 show dW x _=dW x _
 refine congrArg (dW x) (funext fun v=> ?_)
 cases v<;>rfl
def aam (t:Nat) (ix:List Nat) (vs:List AV):Rd Out:=uz ty t (ix.zip vs)
theorem Ql (t:Nat) (ps:Array (Nat×Operand)):fB ty tb lin ⟨d,.build t ps,T,p,af,g⟩=oD (ps.toList.map (·.2)) (aam ty t (ps.toList.map (·.1))):=rfl
def Vo (nm t n:Nat) (ix:List Nat) (vs:List AV):Rd Out:=jf ty lin nm t n (ix.zip vs)
theorem AP (t n:Nat) (ps:Array (Nat×Operand)):fB ty tb lin ⟨d,.buildSlice t n ps,T,p,af,g⟩=oD (ps.toList.map (·.2)) (Vo ty lin (d.getD 0) t n (ps.toList.map (·.1))):=rfl
theorem XD (t:Nat) (a:Operand):fB ty tb lin ⟨d,.load t a,T,p,af,g⟩=dW a (lY ty lin (d.getD 0) t):=rfl
def aiR (k j off:Nat) (x:D) (i:TI) (kk:Nat):Rd Out:=
 .ret ⟨i.agg=false∧off=0∧j<x.len∧(yd x j).cu=true,.c (.own kk),[.lab k (.deep (x.setAt j 0 [.undef])),.lab kk (.owned (yd x j))]⟩
def aiT (nm k j off:Nat) (x:D):Bool→Option TI→Rd Out
 | true,some i=>fF nm (aiR k j off x i)
 | _,_=>bad
def kLh (nm t k j off:Nat):Option eX→Rd Out
 | some (.deep x)=>aiT nm k j off x lin (ty t)
 | _=>iI ty t (.u (.c (.gQ k j off)))
theorem Jk (nm t k j off:Nat):lY ty lin nm t (.u (.c (.gQ k j off)))= .lab k (kLh ty lin nm t k j off):=by
 refine kJ rfl rfl (fun _=>rfl) (fun _=>rfl) (fun x=> ?_)
 simp only [kLh]
 cases ty t<;>cases lin<;>rfl
theorem Nb (nm t b off:Nat):lY ty lin nm t (.u (.c (.ref b off)))=iI ty t (.u (.c (.ref b off))):=(rfl)
theorem Jj (nm t off:Nat) (l:List D):lY ty lin nm t (.u (.c (.dK l off)))=iI ty t (.u (.c (.dK l off))):=(rfl)
theorem XF (nm t:Nat) (x:D):lY ty lin nm t (.u (.c (.d x)))=iI ty t (.u (.c (.d x))):=(rfl)
theorem Jl (nm t g off:Nat):lY ty lin nm t (.u (.c (.glob g off)))=iI ty t (.u (.c (.glob g off))):=(rfl)
theorem asP (nm t k j off:Nat) (x:D):kLh ty lin nm t k j off (some (.owned x))=iI ty t (.u (.c (.gQ k j off))):=(rfl)
theorem asO (nm t k j off:Nat) (x:D):kLh ty lin nm t k j off (some (.shared x))=iI ty t (.u (.c (.gQ k j off))):=(rfl)
theorem asQ (nm t k j off:Nat) (x:D):kLh ty lin nm t k j off (some (.deep x))=aiT nm k j off x lin (ty t):=(rfl)
theorem aiS (nm k j off:Nat) (x:D) (i:TI):aiT nm k j off x true (some i)=fF nm (aiR k j off x i):=(rfl)
def aiY (k j off kk:Nat) (x y:D):Option TI→Rd Out
 | some i=> .ret ⟨i.size=1∧off=0∧j<x.len,default,[.lab k (.deep (x.setAt j 0 [y])),.lab kk .dead]⟩
 | none=>bad
def aeQ (t k j off kk:Nat) (x:D):Option eX→Rd Out
 | some (.owned y)=>aiY k j off kk x y (ty t)
 | _=>bad
def kHs (t k j off kk:Nat):Option eX→Rd Out
 | some (.deep x)=> .lab kk (aeQ ty t k j off kk x)
 | _=>bad
theorem Je (t k j off kk:Nat):jY ty t (.u (.c (.gQ k j off))) (.u (.c (.own kk)))= .lab k (kHs ty t k j off kk):=by
 refine kJ rfl rfl (fun _=>rfl) (fun _=>rfl) (fun x=> ?_) (fun _=>rfl)
 refine kJ rfl rfl (fun y=> ?_) (fun _=>rfl) (fun _=>rfl) (fun _=>rfl)
 simp only [aeQ]; cases ty t<;>rfl
theorem Jd (t b off:Nat) (v:AV):jY ty t (.u (.c (.ref b off))) v=kL ty t (.u (.c (.ref b off))) v:=(rfl)
theorem Qe (t k j off:Nat) (x:D):jY ty t (.u (.c (.gQ k j off))) (.u (.c (.d x)))=kL ty t (.u (.c (.gQ k j off))) (.u (.c (.d x))):=(rfl)
theorem EY (t k j off:Nat):jY ty t (.u (.c (.gQ k j off))) (.u (.c .dD))=kL ty t (.u (.c (.gQ k j off))) (.u (.c .dD)):=(rfl)
theorem Jf (t k j off:Nat) (l:List AC):jY ty t (.u (.c (.gQ k j off))) (.u (.agg l))=kL ty t (.u (.c (.gQ k j off))) (.u (.agg l)):=(rfl)
theorem asZ (t k j off kk:Nat) (x:D):kHs ty t k j off kk (some (.deep x))= .lab kk (aeQ ty t k j off kk x):=(rfl)
theorem aiZ (t k j off kk:Nat) (x y:D):aeQ ty t k j off kk x (some (.owned y))=aiY k j off kk x y (ty t):=(rfl)
theorem aiX (k j off kk:Nat) (x y:D) (i:TI):aiY k j off kk x y (some i)= .ret ⟨i.size=1∧off=0∧j<x.len,default,[.lab k (.deep (x.setAt j 0 [y])),.lab kk .dead]⟩:=(rfl)
def af' (t:Nat) (a v:AV):Rd Out:=jY ty t a v
def ash (t:Nat) (v:Operand) (a:AV):Rd Out:=dW v (af' ty t a)
theorem Qh (t:Nat) (a v:Operand):fB ty tb true ⟨d,.store t a v,T,p,af,g⟩=dW a (ash ty t v):=rfl
def asB (v:AV):Rd Out:=match v with
 | .u (.c (.ref _ _)) | .u (.c (.dK _ _))=>pX v
 | .u (.c (.d (.pt b l)))=> .ret ⟨b=true,.c (.d (.pt b l)),[]⟩
 | _=>bad
theorem EZ (x:Operand):fB ty tb lin ⟨d,.nilCheck x,T,p,af,g⟩=dW x asB:=rfl
def atc (op:BinOp) (t:Nat) (y:Operand) (x:AV):Rd Out:=dW y (Gu ty (isConst y) op t x)
theorem Qm (op:BinOp) (t:Nat) (x y:Operand) (u:TypeId):fB ty tb lin ⟨d,.binOp op t x y u,T,p,af,g⟩=dW x (atc ty op t y):=rfl
def asC:AV→Rd Out
 | .u (.c (.d (.int k n)))=>pX (.c (.d (.int k (k.wrap (0 - n)))))
 | _=>bad
def asA:AV→Rd Out
 | .u (.c (.d (.bool b)))=>pX (.c (.d (.bool !b)))
 | _=>bad
theorem aa7 (t:Nat) (x:Operand):fB ty tb lin ⟨d,.unOp .neg t x,T,p,af,g⟩=dW x asC:=by
 refine congrArg (dW x) (funext fun v=> ?_)
 rcases v with (x | l) | _ | _<;>first | rfl | (cases x<;>first | rfl | (rename_i y; cases y<;>rfl))
theorem aa6 (t:Nat) (x:Operand):fB ty tb lin ⟨d,.unOp .not t x,T,p,af,g⟩=dW x asA:=by
 refine congrArg (dW x) (funext fun v=> ?_)
 rcases v with (x | l) | _ | _<;>first | rfl | (cases x<;>first | rfl | (rename_i y; cases y<;>rfl))
def agq (t:Nat) (x:Operand):Option TI→Rd Out
 | some { desc:= .slice e,.. } =>dW x (lu ty e t)
 | some _=>dW x (nH ty t)
 | none=>bad
theorem Ji (s t:Nat) (x:Operand):fB ty tb lin ⟨d,.convert s t x,T,p,af,g⟩=agq ty t x (ty s):=by
 show (match ty s with | some { desc:= .slice e,.. } =>_ | some _=>_ | none=>_)=_
 cases ty s with
 | none=>rfl
 | some i=>
  obtain ⟨_,_,_,_,d,_⟩:=i
  cases d<;>rfl
def asJ (f:Nat):Option (List Cap)→Rd Out
 | some cs=>pX (.c (.clo f cs))
 | none=>bad
def kMf (f:Nat) (vs:List AV):Rd Out:=asJ f (qZ vs)
theorem E5 (f:Nat) (caps:Array Operand):fB ty tb lin ⟨d,.makeFunc (.func f) #[] caps,T,p,af,g⟩=oD caps.toList (kMf f):=by
 show oD caps.toList _=_
 refine congrArg (oD caps.toList) (funext fun v=> ?_)
 simp only [kMf]
 cases qZ v<;>rfl
def asH (nm t:Nat) (l c:AV):Rd Out:=lq ty lin nm t l c
def kMs (nm t:Nat) (c:Operand) (l:AV):Rd Out:=dW c (asH ty lin nm t l)
theorem DK (t:Nat) (l c:Operand):fB ty tb lin ⟨d,.makeSlice t l c,T,p,af,g⟩=dW l (kMs ty lin (d.getD 0) t c):=rfl
def agi (t:Nat) (mx:Option Operand) (x:AV):Rd Out:=jM ty t x none none mx.isSome
def Z4 (t:Nat) (mx:Option Operand) (x l:AV):Rd Out:=jM ty t x (some l) none mx.isSome
def agb (t:Nat) (l:Operand) (mx:Option Operand) (x:AV):Rd Out:=dW l (Z4 ty t mx x)
def Z5 (t:Nat) (mx:Option Operand) (x h:AV):Rd Out:=jM ty t x none (some h) mx.isSome
def agc (t:Nat) (h:Operand) (mx:Option Operand) (x:AV):Rd Out:=dW h (Z5 ty t mx x)
def agd (t:Nat) (mx:Option Operand) (x l h:AV):Rd Out:=jM ty t x (some l) (some h) mx.isSome
def agf (t:Nat) (h:Operand) (mx:Option Operand) (x l:AV):Rd Out:=dW h (agd ty t mx x l)
def agh (t:Nat) (l h:Operand) (mx:Option Operand) (x:AV):Rd Out:=dW l (agf ty t h mx x)
theorem MV (t:Nat) (x:Operand) (mx:Option Operand):fB ty tb lin ⟨d,.slice t x none none mx,T,p,af,g⟩=dW x (agi ty t mx):=rfl
theorem MR (t:Nat) (x l:Operand) (mx:Option Operand):fB ty tb lin ⟨d,.slice t x (some l) none mx,T,p,af,g⟩=dW x (agb ty t l mx):=rfl
theorem MS (t:Nat) (x h:Operand) (mx:Option Operand):fB ty tb lin ⟨d,.slice t x none (some h) mx,T,p,af,g⟩=dW x (agc ty t h mx):=rfl
theorem Qi (t:Nat) (x l h:Operand) (mx:Option Operand):fB ty tb lin ⟨d,.slice t x (some l) (some h) mx,T,p,af,g⟩=dW x (agh ty t l h mx):=rfl
theorem DN (s:Nat) (x:Operand) (f:Nat):fB ty tb lin ⟨d,.fieldAddr s x f,T,p,af,g⟩=dW x (jK ty s f):=rfl
theorem Qk (s:Nat) (x:Operand) (f:Nat):fB ty tb lin ⟨d,.field s x f,T,p,af,g⟩=dW x (uy ty s f):=rfl
def asU (t:Nat) (i:Operand) (x:AV):Rd Out:=dW i (gW ty t x)
theorem DL (t:Nat) (x i:Operand):fB ty tb lin ⟨d,.indexAddr t x i,T,p,af,g⟩=dW x (asU ty t i):=rfl
def asY (t:Nat) (i:Operand) (x:AV):Rd Out:=dW i (uw ty t x)
theorem Qj (t:Nat) (x i:Operand):fB ty tb lin ⟨d,.index t x i,T,p,af,g⟩=dW x (asY ty t i):=rfl
def as2 (i:Nat):AV→Rd Out
 | .Fq l=> .ret ⟨i<l.length,.u (l.getD i default),[]⟩
 | _=>bad
theorem Jh (x:Operand) (i:Nat):fB ty tb lin ⟨d,.extract x i,T,p,af,g⟩=dW x (as2 i):=by
 refine congrArg (dW x) (funext fun v=> ?_)
 cases v<;>rfl
theorem aa' (x:Operand) (t:TypeId):fB ty tb lin ⟨d,.call ⟨.builtin .len, #[x], #[t]⟩,T,p,af,g⟩=dW x (DT ty t):=rfl
def atd (nm t:Nat) (s x:AV):Rd Out:=nY ty lin nm t s x
def kAp (nm t:Nat) (x:Operand) (s:AV):Rd Out:=dW x (atd ty lin nm t s)
def ate (nm t:Nat) (s x:Operand):Option TI→Rd Out
 | some { desc:= .slice _,.. } =>dW s (kAp ty lin nm t x)
 | _=>bad
theorem Na (s x : Operand) (t u : TypeId) : fB ty tb lin ⟨d, .call ⟨.builtin .append, #[s, x], #[t, u]⟩, T, p, af, g⟩ = ate ty lin (d.getD 0) t s x (ty u) := by
  show (match ty u with | some { desc := .slice _, .. } => _ | _ => _) = _
  cases ty u with
  | none => rfl
  | some ti => obtain ⟨_, _, _, _, d, _⟩ := ti
               cases d <;> rfl
def asI (kk:Nat):Rd Out:= .ret ⟨True,.c (.own kk),[.lab kk (.set (.keys (D.ofList 1 [])))]⟩
def agp (kk:Nat):Rd Out:= .ret ⟨True,.c (.own kk),[.lab kk (.set (.tab []))]⟩
def aiO (nm:Nat):Bool→Option TI→Rd Out
 | true,some { desc:= .string,.. } =>fF nm asI
 | true,some { desc:= .int .i64,.. } =>fF nm agp
 | _,_=>bad
def kMm (nm:Nat):Option TI→Rd Out
 | some { desc:= .map k _,.. } =>aiO nm lin (ty k)
 | _=>bad
theorem Jg (t:Nat):fB ty tb lin ⟨d,.makeMap t none,T,p,af,g⟩=kMm ty lin (d.getD 0) (ty t):=by
 show nG ty lin (d.getD 0) t=_
 unfold nG kMm
 cases ty t with
 | none=>cases lin<;>rfl
 | some ti=>
  obtain ⟨_,_,_,_,d,_⟩:=ti
  cases d<;>first | (cases lin<;>rfl; done) | skip
  rename_i k e
  cases lin with
  | false=>rfl
  | true=>
   show (match ty k with | some { desc:= .string,.. } =>_ | some { desc:= .int .i64,.. } =>_ | _=>_)=aiO _ true (ty k)
   cases ty k with
   | none=>rfl
   | some ti=>obtain ⟨_,_,_,_,d,_⟩:=ti; cases d<;>first | rfl | (rename_i k; cases k<;>rfl)
def aak (n:Int):Option (Nat×Nat×Nat×Nat)→Rd Out
 | some (b,off,m,s)=> .ret ⟨0≤n,.c (.uF b off m s),[]⟩
 | none=>bad
def asK (n:Int):Option eX→Rd Out
 | some (.set (.tab l))=>aak n (lk l n.toNat)
 | _=>bad
theorem aiP (n:Int) (l:List (Nat×Nat×Nat×Nat×Nat)):asK n (some (.set (.tab l)))=aak n (lk l n.toNat):=(rfl)
def asM (kk:Nat) (n:Int):Option TI→Rd Out
 | some { desc:= .int .i64,.. } => .lab kk (asK n)
 | _=>bad
theorem Qp (t kk:Nat) (n:Int):lG ty t (.u (.c (.own kk))) (.u (.c (.d (.int .i64 n))))=match ty t with
 | some { desc:= .map q _,.. } =>asM kk n (ty q)
 | _=>bad:=by
 unfold lG
 cases ty t with
 | none=>rfl
 | some ti=>
  obtain ⟨_,_,_,_,d,_⟩:=ti
  cases d<;>rfl
def asL (s:ByteArray):Option eX→Rd Out
 | some (.set (.keys x))=> .ret ⟨True,.c (.d (.bool (PZ x s))),[]⟩
 | _=>bad
theorem aiQ (s:ByteArray) (x:D):asL s (some (.set (.keys x)))= .ret ⟨True,.c (.d (.bool (PZ x s))),[]⟩:=(rfl)
def kLk (kk:Nat) (s:ByteArray):Option TI→Option TI→Rd Out
 | some { desc:= .string,.. },some { desc:= .bool,zero:=[.bool false],agg:=false,.. } => .lab kk (asL s)
 | _,_=>bad
theorem Qo (t kk:Nat) (s:ByteArray):lG ty t (.u (.c (.own kk))) (.u (.c (.d (.str s))))=match ty t with
 | some { desc:= .map q e,.. } =>kLk kk s (ty q) (ty e)
 | _=>bad:=by
 unfold lG
 cases ty t with
 | none=>rfl
 | some ti=>
  obtain ⟨_,_,_,_,d,_⟩:=ti
  cases d<;>rfl
def asN (t:Nat) (k:Operand) (x:AV):Rd Out:=dW k (lG ty t x)
theorem MW (t:Nat) (x k:Operand):fB ty tb lin ⟨d,.lookup t x k false,T,p,af,g⟩=dW x (asN ty t k):=rfl
def asG (kk:Nat) (s:ByteArray) (b:Bool):Option eX→Rd Out
 | some (.set (.keys x))=> .ret ⟨b=true,default,[.lab kk (.set (.keys (D.cat x (D.ofList 1 [[.str s]]))))]⟩
 | _=>bad
theorem aiN (kk:Nat) (s:ByteArray) (b:Bool) (x:D):asG kk s b (some (.set (.keys x)))= .ret ⟨b=true,default,[.lab kk (.set (.keys (D.cat x (D.ofList 1 [[.str s]]))))]⟩:=(rfl)
def kMu (kk:Nat) (s:ByteArray) (b:Bool):Option TI→Rd Out
 | some { desc:= .string,.. } => .lab kk (asG kk s b)
 | _=>bad
theorem E8 (t kk:Nat) (s:ByteArray) (b:Bool):gV ty t (.u (.c (.own kk))) (.u (.c (.d (.str s)))) (.u (.c (.d (.bool b))))=match ty t with
 | some { desc:= .map q _,.. } =>kMu kk s b (ty q)
 | _=>bad:=by
 unfold gV
 cases ty t with
 | none=>rfl
 | some ti=>
  obtain ⟨_,_,_,_,d,_⟩:=ti
  cases d<;>rfl
def agn (kk:Nat) (n:Int) (b off m s:Nat):Option eX→Rd Out
 | some (.set (.tab l))=> .ret ⟨0≤n∧(lk l n.toNat).isNone=true,default,[.lab kk (.set (.tab ((n.toNat,b,off,m,s)::l)))]⟩
 | _=>bad
theorem aeM (kk:Nat) (n:Int) (b off m s:Nat) (l:List (Nat×Nat×Nat×Nat×Nat)):agn kk n b off m s (some (.set (.tab l)))= .ret ⟨0≤n∧(lk l n.toNat).isNone=true,default,[.lab kk (.set (.tab ((n.toNat,b,off,m,s)::l)))]⟩:=(rfl)
def asD (kk:Nat) (n:Int) (b off m s:Nat):Option TI→Rd Out
 | some { desc:= .int .i64,.. } => .lab kk (agn kk n b off m s)
 | _=>bad
theorem Fa (t kk:Nat) (n:Int) (b off m s:Nat):gV ty t (.u (.c (.own kk))) (.u (.c (.d (.int .i64 n)))) (.u (.c (.uF b off m s)))=match ty t with
 | some { desc:= .map q _,.. } =>asD kk n b off m s (ty q)
 | _=>bad:=by
 unfold gV
 cases ty t with
 | none=>rfl
 | some ti=>
  obtain ⟨_,_,_,_,d,_⟩:=ti
  cases d<;>rfl
def asE (t:Nat) (x k v:AV):Rd Out:=gV ty t x k v
def asF (t:Nat) (v:Operand) (x k:AV):Rd Out:=dW v (asE ty t x k)
def aiM (t:Nat) (k v:Operand) (x:AV):Rd Out:=dW k (asF ty t v x)
theorem DJ (t:Nat) (x k v:Operand):fB ty tb true ⟨d,.mapUpdate t x k v,T,p,af,g⟩=dW x (aiM ty t k v):=rfl
theorem MX (t:Nat) (x k v:Operand):fB ty tb true ⟨d,.insert t x k v,T,p,af,g⟩=dW x (aiM ty t k v):=rfl
theorem Qg (t:Nat) (x:Operand):fB ty tb lin ⟨d,.sliceToArrayPointer t x,T,p,af,g⟩=dW x (uq ty t):=rfl
theorem aa9 (args:Array Operand) (ts:Array TypeId):fB ty tb lin ⟨d,.call ⟨.builtin .max,args,ts⟩,T,p,af,g⟩=oD args.toList (jZ true):=rfl
theorem aa8 (args:Array Operand) (ts:Array TypeId):fB ty tb lin ⟨d,.call ⟨.builtin .min,args,ts⟩,T,p,af,g⟩=oD args.toList (jZ false):=rfl
def Pz (nm f:Nat) (caps:List Cap) (vs:List AV):Rd Out:=oQ tb lin nm f caps vs
def ags (nm:Nat) (args:List Operand):AV→Rd Out
 | .u (.c (.clo f caps))=>oD args (Pz tb lin nm f caps)
 | .u (.c (.d (.fn f)))=>oD args (Pz tb lin nm f [])
 | _=>bad
theorem XE (f:Operand) (args:Array Operand) (ts:Array TypeId):fB ty tb lin ⟨d,.call ⟨.value f,args,ts⟩,T,p,af,g⟩=dW f (ags tb lin (d.getD 0) args.toList):=by
 show dW f _=_
 refine congrArg (dW f) (funext fun v=> ?_)
 rcases v with (x | l) | _ | _<;>first | rfl | (cases x<;>first | rfl | (rename_i y; cases y<;>rfl))
def kG (o:Oper) (want:Bool):AV→Rd Out
 | .u (.c (.d (.bool b)))=>dN (b == want) o.op (fB ty tb false o)
 | .cnd q (.c (.d (.bool b)))=>dN (q && (b == want)) o.op (fB ty tb false o)
 | _=>bad
def kG0 (o:Oper) (want:Bool):Option Nat→Rd Out
 | none=>bad
 | some t=> .slot t (kG ty tb o want)
theorem DV (ds:List (Option Nat)) (op:Op):eG ty tb ds ⟨d,op,T,p,af,none⟩=fB ty tb true ⟨d,op,T,p,af,none⟩:=rfl
theorem DU (ds:List (Option Nat)) (op:Op) (j:Nat) (want:Bool):eG ty tb ds ⟨d,op,T,p,af,some (j,want)⟩=kG0 ty tb ⟨d,op,T,p,af,some (j,want)⟩ want (Ll ds j):=by
 show (match Ll ds j with | none=>_ | some t=>_)=_
 cases Ll ds j with
 | none=>rfl
 | some t=>
  refine congrArg (Rd.slot t) (funext fun v=> ?_)
  rcases v with (x | l) | _ | ⟨q,(x | l)⟩<;>first | rfl | (cases x<;>first | rfl | (rename_i y; cases y<;>rfl))
end
def asx (c:Bool) (p x y:AV):Rd Out:=yc c p x y
def asy (c:Bool) (y:Operand) (p x:AV):Rd Out:=dW y (asx c p x)
def asz (c:Bool) (x y:Operand) (p:AV):Rd Out:=dW x (asy c y p)
theorem JY (c:Bool) (p x y:Operand) (r:Rd Out):dN c (.pick p x y) r=dW p (asz c x y):=rfl
theorem JZ (c:Bool) (x:Operand) (r:Rd Out):dN c (.move x) r=bM c r:=rfl
theorem EI (c:Bool) (x:Operand) (r:Rd Out):dN c (.assign x) r=bM c r:=rfl
theorem Ib (c:Bool) (t:TypeId) (ps:Array (Nat×Operand)) (r:Rd Out):dN c (.build t ps) r=bM c r:=rfl
theorem wO (c:Bool) (t n:Nat) (ps:Array (Nat×Operand)) (r:Rd Out):dN c (.buildSlice t n ps) r=bM c r:=rfl
theorem J3 (c:Bool) (t:TypeId) (x:Operand) (r:Rd Out):dN c (.load t x) r=bM c r:=rfl
theorem Oh (c:Bool) (x:Operand) (r:Rd Out):dN c (.nilCheck x) r=bM c r:=rfl
theorem Oi (c:Bool) (o:BinOp) (t u:TypeId) (x y:Operand) (r:Rd Out):dN c (.binOp o t x y u) r=bM c r:=rfl
theorem V7 (c:Bool) (o:UnOp) (t:TypeId) (x:Operand) (r:Rd Out):dN c (.unOp o t x) r=bM c r:=rfl
theorem J4 (c:Bool) (s t:TypeId) (x:Operand) (r:Rd Out):dN c (.convert s t x) r=bM c r:=rfl
theorem H7 (c:Bool) (t:TypeId) (x:Operand) (a b d:Option Operand) (r:Rd Out):dN c (.slice t x a b d) r=bM c r:=rfl
theorem yM (c:Bool) (t:TypeId) (x:Operand) (i:Nat) (r:Rd Out):dN c (.fieldAddr t x i) r=bM c r:=rfl
theorem Ia (c:Bool) (t:TypeId) (x:Operand) (i:Nat) (r:Rd Out):dN c (.field t x i) r=bM c r:=rfl
theorem yL (c:Bool) (t:TypeId) (x i:Operand) (r:Rd Out):dN c (.indexAddr t x i) r=bM c r:=rfl
theorem H9 (c:Bool) (t:TypeId) (x i:Operand) (r:Rd Out):dN c (.index t x i) r=bM c r:=rfl
theorem EH (c:Bool) (t:TypeId) (x k:Operand) (b:Bool) (r:Rd Out):dN c (.lookup t x k b) r=bM c r:=rfl
theorem H6 (c:Bool) (t:TypeId) (x:Operand) (r:Rd Out):dN c (.sliceToArrayPointer t x) r=bM c r:=rfl
theorem BD (c:Bool) (x:Operand) (i:Nat) (r:Rd Out):dN c (.extract x i) r=bM c r:=rfl
theorem J5 (c:Bool) (k:Call) (r:Rd Out):dN c (.call k) r=bM c r:=rfl
theorem Aq (c:Bool) (f:Fn) (a b:Array Operand) (r:Rd Out):dN c (.makeFunc f a b) r=bM c r:=rfl
attribute [go_sem] asx asy asz JY JZ EI Ib wO J3 Oh Oi V7 J4 H7 yM Ia yL H9 BD J5 Aq yc
def kU (c:Bool) (k:Option eX→Rd Out) (v:Option eX):Rd Out:=bM c (k v)
theorem Ol (c:Bool) (l:Nat) (k:Option eX→Rd Out):bM c (.lab l k)= .lab l (kU c k):=rfl
def kUB (c:Bool) (k:Option (List AC)→Rd Out) (v:Option (List AC)):Rd Out:=bM c (k v)
theorem Om (c:Bool) (l:Nat) (k:Option (List AC)→Rd Out):bM c (.box l k)= .box l (kUB c k):=rfl
def YC (c:Bool):List Wr→AV→Prop→Rd Out
 | [],.u x,p=> .ret ⟨c=true→p,.cnd c x,[]⟩
 | _,_,_=>bad
theorem Oj (c:Bool) (p:Prop) (v:AV) (ws:List Wr):bM c (.ret ⟨p,v,ws⟩)=YC c ws v p:=by
 cases ws<;>cases v<;>rfl
theorem YX (t:Nat) (k:AV→Rd Out) (st:St):(Rd.slot t k).run st=(k ((lk st.sl t).getD default)).run st:=rfl
theorem adV (t:Nat) (k:Option eX→Rd Out) (st:St):(Rd.lab t k).run st=(k (lk st.lb t)).run st:=rfl
theorem adW (t:Nat) (k:Option (List AC)→Rd Out) (st:St):(Rd.box t k).run st=(k (lk st.bx t)).run st:=rfl
theorem adU (a:Out) (st:St):(Rd.ret a).run st=a:=rfl
theorem Kz (t:Nat) (f:AV→Rd Out) (st:St):(dW (.tmp t) f).run st=(f ((lk st.sl t).getD default)).run st:=rfl
theorem EN (v:Value) (f:AV→Rd Out) (st:St):(dW (.const v) f).run st=(f (ofValue v)).run st:=rfl
theorem Ik (g:Nat) (f:AV→Rd Out) (st:St):(dW (.global g) f).run st=(f (.c (.glob g 0))).run st:=rfl
theorem Il (g:Nat) (f:AV→Rd Out) (st:St):(dW (.func g) f).run st=(f (.c (.clo g []))).run st:=rfl
theorem az8 (f:D→Rd Out) (x:D):kD f (some (.owned x))=f x:=(rfl)
theorem az7 (f:D→Rd Out) (x:D):kD f (some (.shared x))=f x:=(rfl)
theorem ai3 (f:List D→Rd Out) (cs:List AC):as3 f (some cs)=oW cs f:=(rfl)
theorem ai7 (off n s:Nat) (f:Arg→Rd Out) (cs:List AC):as5 off n s f (some cs)=abY off n s cs (Vp f):=(rfl)
theorem aeL (n nm:Nat) (f:Nat→Rd Out):Vl n nm f none=f nm:=(rfl)
theorem aeK (n nm:Nat) (f:Nat→Rd Out) (l:eX):Vl n nm f (some l)=oM n (nm+100000) f:=(rfl)
theorem aad (n nm:Nat) (f:Nat→Rd Out):I4 n nm f none=f nm:=(rfl)
theorem aac (n nm:Nat) (f:Nat→Rd Out) (l:List AC):I4 n nm f (some l)=oN n (nm+100000) f:=(rfl)
theorem asu (k:Nat) (r:List AC) (f:List Wr→Rd Out) (x:D):kSh k r f (some (.owned x))=bH r (aiK k x f):=(rfl)
theorem asr (k:Nat) (r:List AC) (f:List Wr→Rd Out) (x:D):kSh k r f (some (.shared x))=bH r f:=(rfl)
theorem aag (i:TI) (off:Nat) (cs:List AC):aah i off (some cs)=gU i off cs:=(rfl)
theorem aaf (i:TI) (j off:Nat) (x:D):Py i j off (some (.owned x))=gU i off ((x.nth j).map .d):=(rfl)
theorem aae (i:TI) (j off:Nat) (x:D):Py i j off (some (.shared x))=gU i off ((x.nth j).map .d):=(rfl)
theorem ai1 (k i o:Nat) (x:D):ai2 k i o (some (.owned x))=pX (.c (.gQ k i o)):=(rfl)
theorem ai0 (k i o:Nat) (x:D):ai2 k i o (some (.shared x))=pX (.c (.gQ k i o)):=(rfl)
theorem aeR (e:TI) (t nm j:Nat) (y:AC) (d z:D):aap e t nm j y d (some (.owned z))=fF nm (aao e j y z d):=(rfl)
theorem aeS (e:TI) (t nm j:Nat) (y:AC) (d z:D):aap e t nm j y d (some (.deep z))=fF nm (aan e t j z d):=(rfl)
theorem ai4 (sp:fD) (lin:Bool) (nm:Nat) (caps:List Cap) (args:List AV) (as:List Arg):ai6 sp lin nm caps args as true=bH (bV args) (kC3 sp lin nm caps as):=(rfl)
theorem ai5 (sp:fD) (lin:Bool) (nm:Nat) (caps:List Cap) (args:List AV) (as:List Arg):ai6 sp lin nm caps args as false=ig sp lin nm caps as []:=(rfl)
theorem as4 (lin:Bool) (nm:Nat) (caps:List Cap) (args:List AV) (sp:fD):kC0 lin nm caps args (some sp)=lD args (kC1 sp lin nm caps args):=(rfl)
attribute [go_sem] Ik BM EJ LM agm Zz Xc az8 az7 alm YE as8 ajZ ai7 Oy Wn asn YF ac4 RQ kDs YD V8 ai3 X6 QG agr QF NH Vp agw agv Wj ac5 Oz Wi Wp
 agu Ox J9 aeL aeK F7 ZH aad aac F8 ZI aiK asu asr EL EK Kw BN EM Z9 Pj Lr aag aaf aae aai aaj abd
 asi aga aiJ asj kSt Xz ai1 ai0 as1 kFa Fb asW asV asX AQ y7 aiV aiU as9 ata as6 as7 PX PV aaM Mc PW L9 PY kBs DW aso asq asl XA asT aeO aeN aeP aal ae6 agz aeR aeS aan aao agy XI Qr XH agx Qq
 aiL asv kRc Ir OM Iq EO agj agk adX WH agl asw OO KE kCo Yc kC3 ai4 ai5 kC2 kC1 as4 XG
 XC MZ Z7 Z8 XB aaq Vq Qn agt atb abb aam Ql Vo AP XD af' ash Qh asB EZ atc Qm asC asA aa7 aa6
 agq Ji asJ kMf E5 asH kMs DK agi Z4 agb Z5 agc agd agf agh MV MR MS Qi DN Qk asU DL asY Qj as2 Jh
 Ot Wh ac3 V9 Oq Ou Jk Nb Jj XF Jl asP asO asQ aiS aiR uS Je Jd Qe EY Jf asZ aiZ aiX
 asI agp aiO kMm Jg aak aiP asM Qp aeM asD Fa aiQ kLk Qo asN MW aiN kMu E8 asE asF aiM DJ MX EH Qg H6 aa' atd kAp ate Na aa9 aa8 Pz ags XE kG kG0 DV DU kU Ol kUB Om YC Oj YX adV adW adU Kz EN Il
end Go.dG
set_option linter.unusedVariables false
set_option linter.unusedSimpArgs false
namespace Go.dG
def BA (c:Bool) (v:AV) (f:AV→Rd Out):Rd Out:=
 match v with
 | .cnd q x=>lI (c=true→q=true) (bM c (f (.u x)))
 | v=>bM c (f v)
theorem BQ (c:Bool) (t:Nat) (f:AV→Rd Out) (st:St):(bM c (dW (.tmp t) f)).run st=(BA c ((lk st.sl t).getD default) f).run st:=by
 simp only [dW,bM,Rd.run]
 cases (lk st.sl t).getD default<;>rfl
theorem yN (c:Bool) (v:Value) (f:AV→Rd Out) (st:St):(bM c (dW (.const v) f)).run st=(bM c (f (ofValue v))).run st:=rfl
theorem Ar (c:Bool) (g:Nat) (f:AV→Rd Out) (st:St):(bM c (dW (.global g) f)).run st=(bM c (f (.c (.glob g 0)))).run st:=rfl
theorem Au (c:Bool) (g:Nat) (f:AV→Rd Out) (st:St):(bM c (dW (.func g) f)).run st=(bM c (f (.c (.clo g [])))).run st:=rfl
theorem YB (c:Bool) (x:AU) (f:AV→Rd Out):BA c (.u x) f=bM c (f (.u x)):=rfl
theorem Oe (c:Bool) (x:List AU) (f:AV→Rd Out):BA c (.Fq x) f=bM c (f (.Fq x)):=rfl
theorem Og (c q:Bool) (x:AU) (f:AV→Rd Out):BA c (.cnd q x) f=lI (c=true→q=true) (bM c (f (.u x))):=rfl
theorem LG (t:Nat) (f:AV→Rd Out) (st:St):(dW (.tmp t) f).log st= .slot t::(f ((lk st.sl t).getD default)).log st:=rfl
theorem EW (v:Value) (f:AV→Rd Out) (st:St):(dW (.const v) f).log st=(f (ofValue v)).log st:=rfl
theorem IQ (g:Nat) (f:AV→Rd Out) (st:St):(dW (.global g) f).log st=(f (.c (.glob g 0))).log st:=rfl
theorem AB (c:Bool) (g:Nat) (f:AV→Rd Out) (st:St):(bM c (dW (.global g) f)).log st=(bM c (f (.c (.glob g 0)))).log st:=rfl
theorem IU (g:Nat) (f:AV→Rd Out) (st:St):(dW (.func g) f).log st=(f (.c (.clo g []))).log st:=rfl
theorem Pv (p:Prop) (r:Rd Out) (st:St):(lI p r).log st=r.log st:=by
 induction r with
 | ret o=>rfl
 | slot t k ih=>simp only [lI,Rd.log]; rw [ih]
 | box b k ih=>simp only [lI,Rd.log]; rw [ih]
 | lab l k ih=>simp only [lI,Rd.log]; rw [ih]
theorem Dj (c:Bool) (t:Nat) (f:AV→Rd Out) (st:St):(bM c (dW (.tmp t) f)).log st= .slot t::(BA c ((lk st.sl t).getD default) f).log st:=by
 simp only [dW,bM,Rd.log]
 cases (lk st.sl t).getD default<;>rfl
theorem yY (c:Bool) (v:Value) (f:AV→Rd Out) (st:St):(bM c (dW (.const v) f)).log st=(bM c (f (ofValue v))).log st:=rfl
theorem AL (c:Bool) (g:Nat) (f:AV→Rd Out) (st:St):(bM c (dW (.func g) f)).log st=(bM c (f (.c (.clo g [])))).log st:=rfl
theorem getD_some {α:Type} (x d:α):(some x).getD d=x:=rfl
theorem getD_none {α:Type} (d:α):(none:Option α).getD d=d:=rfl
def lkc {α:Type}:Bool→α→List (Nat×α)→Nat→Option α
 | true,v,_,_=>some v
 | false,_,r,k=>lk r k
theorem ase {α:Type} (v:α) (r:List (Nat×α)) (k:Nat):lkc true v r k=some v:=(rfl)
theorem asf {α:Type} (v:α) (r:List (Nat×α)) (k:Nat):lkc false v r k=lk r k:=(rfl)
theorem aiG {α:Type} (k:Nat):lk ([]:List (Nat×α)) k=none:=(rfl)
theorem aeH {α:Type} (t k:Nat) (v:α) (r:List (Nat×α)):lk ((t,v)::r) k=lkc (t == k) v r k:=by
 rw [lk]
 by_cases h:t=k
 ·subst h; simp [lkc]
 ·rw [if_neg h,beq_false_of_ne h]; rfl
attribute [go_sem] Ar foots writes Wr.comp Rd.log IQ AB LG EW IU Pv Dj yY AL vc iy eP pX bad valOf aiG aeH ase asf St.begin NT VT St.done bJ St.slot ofValue zO vK BQ yN Au
 YB Oe Og qN iL Gu aft AV.c AV.agg Wr.put AU.cells AU.solid AC.solid
 fin eH vN NS afx Eh yC kR iM uM nK Dn RV.cells D.scalar gU ES Ll Gx getD_some getD_none
 splice Gf Vh glb ae1 CS mZ xC mD uy jL gW uw uq firsts iF jI uz xw chunks lq bound Gt jZ II
 zY bV jr nH qZ qO BI DY isConst Lm bytesOf Bf lu
end Go.dG
set_option linter.unusedVariables false
set_option linter.unusedSimpArgs false
namespace Go.dG
def ZO (bs:List (Nat×Nat)):Cap→Option Cap
 | .ref b off=>(lk bs b).map fun b'=> .ref b' off
 | .dK l off=>some (.dK l off)
def LC (bs:List (Nat×Nat)):List Cap→Option (List Cap)
 | []=>some []
 | x::r=>match ZO bs x,LC bs r with
  | some y,some s=>some (y::s)
  | _,_=>none
def mAC (bs ks:List (Nat×Nat)) (lb:Nat→Option eX):AC→Option AC
 | .undef=>some .undef
 | .d x=>some (.d x)
 | .dD=>some .dD
 | .own k=>match lk ks k with
  | some k'=>some (.own k')
  | none=>match lb k with
   | some (.shared x)=>some (.d x)
   | some .dead=>some .undef
   | _=>none
 | .ref b off=>(lk bs b).map fun b'=> .ref b' off
 | .gQ k i off=>match lk ks k with
  | some k'=>some (.gQ k' i off)
  | none=>match lb k with
   | some (.shared x)=>some (.dK (x.nth i) off)
   | some .dead=>some .undef
   | _=>none
 | .dK l off=>some (.dK l off)
 | .clo f caps=>(LC bs caps).map fun c=> .clo f c
 | .V4 l=>some (.V4 l)
 | .VI x=>some (.VI x)
 | .glob g off=>some (.glob g off)
 | .uF b off n s=>(lk bs b).map fun b'=> .uF b' off n s
 | .bnd f l=>some (.bnd f l)
def Pq (bs ks:List (Nat×Nat)) (lb:Nat→Option eX):List AC→Option (List AC)
 | []=>some []
 | x::r=>match mAC bs ks lb x,Pq bs ks lb r with
  | some y,some s=>some (y::s)
  | _,_=>none
def mAU (bs ks:List (Nat×Nat)) (lb:Nat→Option eX):AU→Option AU
 | .c x=>(mAC bs ks lb x).map .c
 | .agg l=>(Pq bs ks lb l).map .agg
def mSl (bs ks:List (Nat×Nat)) (st:St):List Nat→Option (List (Nat×AV))
 | []=>some []
 | t::r=>match lk st.sl t,mSl bs ks st r with
  | some (.u x),some s=>match mAU bs ks (lk st.lb) x with
   | some y=>some ((t,.u y)::s)
   | none=>none
  | _,_=>none
def mBx (bs ks:List (Nat×Nat)) (st:St):List (Nat×Nat)→Option (List (Nat×List AC))
 | []=>some []
 | (b,b')::r=>match lk st.bx b,mBx bs ks st r with
  | some cs,some s=>match Pq bs ks (lk st.lb) cs with
   | some y=>some ((b',y)::s)
   | none=>none
  | _,_=>none
def IL (ks:List (Nat×Nat)):eX→Option eX
 | .dead=>some .dead
 | .owned x=>some (.owned x)
 | .shared x=>some (.shared x)
 | .deep x=>some (.deep x)
 | .set (.keys x)=>some (.set (.keys x))
 | .set (.tab _)=>none
theorem kH {ks:List (Nat×Nat)} {l x:eX} (h:IL ks l=some x):x=l∧∀ y,l≠ .set (.tab y):=by
 rcases l with _ | _ | _ | _ | M
 ·exact ⟨(Option.some.inj h).symm,fun _ e=>by cases e⟩
 ·exact ⟨(Option.some.inj h).symm,fun _ e=>by cases e⟩
 ·exact ⟨(Option.some.inj h).symm,fun _ e=>by cases e⟩
 ·exact ⟨(Option.some.inj h).symm,fun _ e=>by cases e⟩
 ·cases M with
  | keys x=>exact ⟨(Option.some.inj h).symm,fun _ e=>by cases e⟩
  | tab l=>cases h
def Xg (ks:List (Nat×Nat)) (st:St):List (Nat×Nat)→Option (List (Nat×eX))
 | []=>some []
 | (k,k')::r=>match lk st.lb k,Xg ks st r with
  | some l,some s=>match IL ks l with
   | some l'=>some ((k',l')::s)
   | none=>none
  | _,_=>none
def mLb (st:St) (ks:List (Nat×Nat)):Option (List (Nat×eX)):=Xg ks st ks
def lS (l:List (Nat×Nat)):Prop:=(l.map (·.1)).Nodup∧(l.map (·.2)).Nodup
def mAV (bs ks:List (Nat×Nat)) (lb:Nat→Option eX):AV→Option AV
 | .u x=>(mAU bs ks lb x).map .u
 | _=>none
def xP (bs ks:List (Nat×Nat)) (lb:Nat→Option eX):List AV→Prop
 | []=>True
 | v::r=>mAV bs ks lb v=some v∧xP bs ks lb r
theorem Ad {bs ks:List (Nat×Nat)} {lb:Nat→Option eX}:∀ {l:List AV},xP bs ks lb l→∀ v∈l,mAV bs ks lb v=some v
 | [],_,v,h=>by cases h
 | x::r,h,v,hv=>by
  rcases List.mem_cons.1 hv with rfl | hv
  ·exact h.1
  ·exact Ad h.2 v hv
def View (ts:List Nat) (bs ks:List (Nat×Nat)) (st st':St):Prop:=
 lS bs∧lS ks∧mSl bs ks st ts=some st'.sl∧mBx bs ks st bs=some st'.bx∧mLb st ks=some st'.lb
def rk (l:List (Nat×Nat)) (b:Nat):Option Nat:=lk (l.map fun p=>(p.2,p.1)) b
theorem ZP {α:Type} {l:List (Nat×α)} {a:Nat} {b:α} (h:lk l a=some b):(a,b)∈l:=by
 induction l with
 | nil=>cases h
 | cons p r ih=>
  obtain ⟨x,y⟩:=p
  simp only [lk] at h
  split at h
  ·rename_i e; subst e; obtain rfl:=Option.some.inj h; simp
  ·exact List.mem_cons_of_mem _ (ih h)
theorem ZM {α:Type} {l:List (Nat×α)} {a:Nat} {b:α} (hn:(l.map (·.1)).Nodup) (h:(a,b)∈l):lk l a=some b:=by
 induction l with
 | nil=>cases h
 | cons p r ih=>
  obtain ⟨x,y⟩:=p
  simp only [List.map_cons,List.nodup_cons] at hn
  simp only [lk]
  rcases List.mem_cons.1 h with e | h
  ·cases e; rw [if_pos rfl]
  ·have:x≠a:=by
    rintro rfl
    exact hn.1 (List.mem_map.2 ⟨_,h,rfl⟩)
   rw [if_neg this]; exact ih hn.2 h
theorem mJ {l:List (Nat×Nat)} (h:lS l) {a b:Nat}:lk l a=some b↔rk l b=some a:=by
 have hs:((l.map fun p=>(p.2,p.1)).map (·.1)).Nodup:=by simpa [List.map_map,Function.comp_def] using h.2
 refine ⟨fun e=>ZM hs (List.mem_map.2 ⟨_,ZP e,rfl⟩),fun e=> ?_⟩
 obtain ⟨p,hp,e2⟩:=List.mem_map.1 (ZP e)
 cases p; cases e2
 exact ZM h.1 hp
theorem ZQ {bs ks:List (Nat×Nat)} {st:St}:∀ {ts:List Nat} {s:List (Nat×AV)},mSl bs ks st ts=some s→∀ t v,lk s t=some v→∃ x y,lk st.sl t=some (.u x)∧mAU bs ks (lk st.lb) x=some y∧v= .u y
 | [],s,h,t,v,hv=>by simp only [mSl,Option.some.injEq] at h; subst h; cases hv
 | t0::r,s,h,t,v,hv=>by
  simp only [mSl] at h
  split at h
  ·rename_i x s' h1 h2
   split at h
   ·rename_i y hy
    obtain rfl:=Option.some.inj h
    simp only [lk] at hv
    split at hv
    ·rename_i e; subst e; obtain rfl:=Option.some.inj hv
     exact ⟨x,y,h1,hy,rfl⟩
    ·exact ZQ h2 t v hv
   ·cases h
  ·cases h
theorem Px {bs ks:List (Nat×Nat)} {st:St}:∀ {l:List (Nat×Nat)} {s:List (Nat×List AC)},mBx bs ks st l=some s→∀ b',
 (∀ cs',lk s b'=some cs'→∃ b cs,rk l b'=some b∧lk st.bx b=some cs∧Pq bs ks (lk st.lb) cs=some cs')∧(lk s b'=none→rk l b'=none)
 | [],s,h,b'=>by simp only [mBx,Option.some.injEq] at h; subst h; exact ⟨fun _ h=>(by cases h),fun _=>rfl⟩
 | (b0,b1)::r,s,h,b'=>by
  simp only [mBx] at h
  split at h
  ·rename_i cs s' h1 h2
   split at h
   ·rename_i y hy
    obtain rfl:=Option.some.inj h
    simp only [lk,rk,List.map_cons]
    split
    ·refine ⟨fun cs' e=> ?_,fun e=>(by cases e)⟩
     obtain rfl:=Option.some.inj e
     exact ⟨b0,cs,rfl,h1,hy⟩
    ·exact Px h2 b'
   ·cases h
  ·cases h
theorem Vj {ks:List (Nat×Nat)} {st:St}:∀ {l:List (Nat×Nat)} {s:List (Nat×eX)},Xg ks st l=some s→∀ k',
 (∀ x,lk s k'=some x→∃ k y,rk l k'=some k∧lk st.lb k=some y∧IL ks y=some x)∧(∀ k,rk l k'=some k→∃ y x,lk st.lb k=some y∧IL ks y=some x∧lk s k'=some x)
 | [],s,h,b'=>by simp only [Xg,Option.some.injEq] at h; subst h; exact ⟨fun _ h=>(by cases h),fun k h=>(by cases h)⟩
 | (b0,b1)::r,s,h,b'=>by
  simp only [Xg] at h
  split at h
  ·rename_i cs s' h1 h2
   split at h
   ·rename_i l' h3
    obtain rfl:=Option.some.inj h
    simp only [lk,rk,List.map_cons]
    split
    ·refine ⟨fun cs' e=> ?_,fun k e=> ?_⟩
     ·obtain rfl:=Option.some.inj e
      exact ⟨b0,cs,rfl,h1,h3⟩
     ·obtain rfl:=Option.some.inj e
      exact ⟨cs,l',h1,h3,rfl⟩
    ·exact Vj h2 b'
   ·cases h
  ·cases h
theorem yZ {st:St} {ks:List (Nat×Nat)} {s:List (Nat×eX)} (h:mLb st ks=some s):∀ k',
 (∀ x,lk s k'=some x→∃ k y,rk ks k'=some k∧lk st.lb k=some y∧IL ks y=some x)∧(∀ k,rk ks k'=some k→∃ y x,lk st.lb k=some y∧IL ks y=some x∧lk s k'=some x):=Vj h
theorem Vf {ks:List (Nat×Nat)} {y x:eX} (h:IL ks y=some x):od (some x)=od (some y):=by
 obtain ⟨rfl,_⟩:=kH h; rfl
section
variable {cx:Cx} {st st':St} {m:Mp} {a:Act} {w:World} {ts:List Nat} {bs ks:List (Nat×Nat)}
def Mp.view (m:Mp) (bs ks:List (Nat×Nat)):Mp:=⟨fun k=>(rk ks k).bind m.own,fun b=>(rk bs b).bind m.box,fun k j=>(rk ks k).bind fun q=>m.inn q j,fun k=>(rk ks k).bind m.mp⟩
theorem YT {B:Nat} (h:fE cx m B):fE cx (m.view bs ks) B:=by
 refine ⟨h.1,fun k=> ?_,fun b=> ?_,fun k j=> ?_⟩
 ·simp only [Mp.view]
  cases rk ks k with
  | none=>simp
  | some k0=>exact h.2.1 k0
 ·simp only [Mp.view]
  cases rk bs b with
  | none=>simp
  | some b0=>exact h.2.2.1 b0
 ·simp only [Mp.view]
  cases rk ks k with
  | none=>simp
  | some k0=>exact h.2.2.2 k0 j
theorem jJ:Ext w w (fE cx m) (fE cx (m.view bs ks)):=⟨Nat.le_refl _,fun _ _ _=>rfl,fun _ _ h=>YT h⟩
theorem WI (hb:lS bs) {x y:Cap} {v:Value} (h:ZO bs x=some y) (hr:zL cx m w x v):zL cx (m.view bs ks) w y v:=by
 cases x with
 | ref b off=>
  simp only [ZO,Option.map_eq_some_iff] at h
  obtain ⟨b',h1,rfl⟩:=h
  obtain ⟨B,h2,h3⟩:=hr
  exact ⟨B,by simp [Mp.view,(mJ hb).1 h1,h2],h3⟩
 | dK l off=>
  obtain rfl:=Option.some.inj h
  exact Ptr.ext jJ hr
theorem Ci (hb:lS bs):∀ {l r:List Cap},LC bs l=some r→r.length=l.length∧∀ i,i<l.length→ZO bs (l.getD i (.ref 0 0))=some (r.getD i (.ref 0 0))
 | [],r,h=>by obtain rfl:=Option.some.inj h; exact ⟨rfl,fun i hi=>absurd hi (by simp)⟩
 | x::l,r,h=>by
  simp only [LC] at h
  split at h
  ·rename_i y s h1 h2
   obtain rfl:=Option.some.inj h
   obtain ⟨g1,g2⟩:=Ci hb h2
   refine ⟨by simp [g1],fun i hi=> ?_⟩
   cases i with
   | zero=>simpa using h1
   | succ i=>simpa using g2 i (by simpa using hi)
  ·cases h
theorem Ce (hb:lS bs) (hk:lS ks) (hl:mLb st ks=some st'.lb) {x y:AC} {v:Value} (h:mAC bs ks (lk st.lb) x=some y) (hr:eU cx m w (lk st.lb) x v) :
 eU cx (m.view bs ks) w (lk st'.lb) y v:=by
 have hown:∀ k k',lk ks k=some k'→(∃ y x,lk st.lb k=some y∧IL ks y=some x∧lk st'.lb k'=some x)∧(m.view bs ks).own k'=m.own k∧(m.view bs ks).mp k'=m.mp k:=by
  intro k k' e
  have e':=(mJ hk).1 e
  exact ⟨(yZ hl k').2 k e',by simp [Mp.view,e'],by simp [Mp.view,e']⟩
 cases x with
 | undef=>obtain rfl:=Option.some.inj h; exact trivial
 | d x=>obtain rfl:=Option.some.inj h; exact RD.ext jJ hr
 | dD=>obtain rfl:=Option.some.inj h; exact hr
 | own k=>
  simp only [mAC] at h
  cases e:lk ks k with
  | some k'=>
   simp only [e] at h
   obtain rfl:=Option.some.inj h
   obtain ⟨⟨L,L',f1,f2,f3⟩,e2,e3⟩:=hown k k' e
   simp only [eU,f1] at hr
   simp only [eU,f3]
   cases L with
   | dead=>obtain rfl:=(kH f2).1; exact hr
   | shared x=>obtain rfl:=(kH f2).1; exact ⟨hr.1,RD.ext jJ hr.2⟩
   | owned x=>obtain rfl:=(kH f2).1; simp only [e2]; exact hr
   | deep x=>obtain rfl:=(kH f2).1; simp only [e2]; exact hr
   | set x=>obtain rfl:=(kH f2).1; simp only [e3]; exact hr
  | none=>
   simp only [e] at h
   simp only [eU] at hr
   cases hL:lk st.lb k with
   | none=>rw [hL] at hr; exact hr.elim
   | some L=>
    rw [hL] at hr h
    cases L with
    | dead=>obtain rfl:=Option.some.inj h; exact trivial
    | shared x=>obtain rfl:=Option.some.inj h; exact RD.ext jJ hr.2
    | owned x=>cases h
    | deep x=>cases h
    | set x=>cases h
 | ref b off=>
  simp only [mAC,Option.map_eq_some_iff] at h
  obtain ⟨b',h1,rfl⟩:=h
  obtain ⟨B,h2,h3⟩:=hr
  exact ⟨B,by simp [Mp.view,(mJ hb).1 h1,h2],h3⟩
 | gQ k i off=>
  simp only [mAC] at h
  cases e:lk ks k with
  | some k'=>
   simp only [e] at h
   obtain rfl:=Option.some.inj h
   obtain ⟨⟨L,L',f1,f2,f3⟩,e2,e3⟩:=hown k k' e
   simp only [eU,f1] at hr
   simp only [eU,f3]
   cases L with
   | dead=>obtain rfl:=(kH f2).1; exact hr
   | shared x=>obtain rfl:=(kH f2).1; exact ⟨hr.1,hr.2.1,Ptr.ext jJ hr.2.2⟩
   | owned x=>obtain rfl:=(kH f2).1; simp only [e2]; exact hr
   | deep x=>obtain rfl:=(kH f2).1; simp only [e2]; exact hr
   | set x=>exact hr.elim
  | none=>
   simp only [e] at h
   simp only [eU] at hr
   cases hL:lk st.lb k with
   | none=>rw [hL] at hr; exact hr.elim
   | some L=>
    rw [hL] at hr h
    cases L with
    | dead=>obtain rfl:=Option.some.inj h; exact trivial
    | shared x=>obtain rfl:=Option.some.inj h; exact Ptr.ext jJ hr.2.2
    | owned x=>cases h
    | deep x=>cases h
    | set x=>cases h
 | dK l off=>obtain rfl:=Option.some.inj h; exact Ptr.ext jJ hr
 | clo f caps=>
  simp only [mAC,Option.map_eq_some_iff] at h
  obtain ⟨c',h1,rfl⟩:=h
  obtain ⟨vs,rfl,hsz,hc⟩:=hr
  obtain ⟨g1,g2⟩:=Ci hb h1
  refine ⟨vs,rfl,by rw [g1]; exact hsz,fun i hi=> ?_⟩
  rw [g1] at hi
  obtain ⟨u,hu,hr⟩:=hc i hi
  exact ⟨u,hu,WI hb (g2 i hi) hr⟩
 | V4 l=>obtain rfl:=Option.some.inj h; exact hr
 | VI x=>obtain rfl:=Option.some.inj h; exact ⟨hr.1,hr.2.1.ext jJ,hr.2.2⟩
 | glob g off=>obtain rfl:=Option.some.inj h; exact hr
 | uF b off n s=>
  simp only [mAC,Option.map_eq_some_iff] at h
  obtain ⟨b',h1,rfl⟩:=h
  obtain ⟨B,cap,h2,h3,h4⟩:=hr
  exact ⟨B,cap,by simp [Mp.view,(mJ hb).1 h1,h2],h3,h4⟩
 | bnd f l=>
  obtain rfl:=Option.some.inj h
  obtain ⟨us,rfl,hsz,hc⟩:=hr
  refine ⟨us,rfl,hsz,fun i hi=> ?_⟩
  obtain ⟨u,hu,hr⟩:=hc i hi
  exact ⟨u,hu,hr.ext jJ⟩
theorem Dh {lb:Nat→Option eX}:∀ {l r:List AC},Pq bs ks lb l=some r→r.length=l.length∧∀ i,i<l.length→mAC bs ks lb (l.getD i .undef)=some (r.getD i .undef)
 | [],r,h=>by obtain rfl:=Option.some.inj h; exact ⟨rfl,fun i hi=>absurd hi (by simp)⟩
 | x::l,r,h=>by
  simp only [Pq] at h
  split at h
  ·rename_i y s h1 h2
   obtain rfl:=Option.some.inj h
   obtain ⟨g1,g2⟩:=Dh h2
   refine ⟨by simp [g1],fun i hi=> ?_⟩
   cases i with
   | zero=>simpa using h1
   | succ i=>simpa using g2 i (by simpa using hi)
  ·cases h
theorem UU (hb:lS bs) (hk:lS ks) (hl:mLb st ks=some st'.lb) {x y:AU} {v:Value} (h2:mAU bs ks (lk st.lb) x=some y) (r2:RU cx m w (lk st.lb) x v):RU cx (m.view bs ks) w (lk st'.lb) y v:=by
 cases x with
 | c x=>
  simp only [mAU,Option.map_eq_some_iff] at h2
  obtain ⟨z,h2,rfl⟩:=h2
  exact Ce hb hk hl h2 r2
 | agg l=>
  simp only [mAU,Option.map_eq_some_iff] at h2
  obtain ⟨z,h2,rfl⟩:=h2
  obtain ⟨vs,e,hsz,hc⟩:=r2
  obtain ⟨g1,g2⟩:=Dh h2
  refine ⟨vs,e,by rw [g1]; exact hsz,fun i hi=> ?_⟩
  rw [g1] at hi
  obtain ⟨u,hu,hr⟩:=hc i hi
  exact ⟨u,hu,Ce hb hk hl (g2 i hi) hr⟩
theorem Rel.view (R : Rel cx st m a w) (hv : View ts bs ks st st') (ajk : xP bs ks (lk st.lb) (cx.fH.map (·.1))) : Rel cx st' (m.view bs ks) a w := by
  obtain ⟨hb, hk, v1, v2, v3⟩ := hv
  refine { defers := R.defers, recs := R.recs, nt := R.nt, env := R.env, size := R.size, old := R.old, s0 := R.s0, slots := fun t v h => ?_, fH := fun p hp => ?_, boxes := fun b cs h => ?_, fP := fun b h => ?_, lT := fun k x h => ?_, gu := fun k h => ?_, aX := ?_, sets := ?_,
           dH := fun k B h => ?_, fM := fun b B h => ?_, iK := fun k k' B h h' => ?_, jS := fun b b' B h h' => ?_, qx := fun k b B h h' => ?_ }
  · obtain ⟨x, y, h1, h2, rfl⟩ := ZQ v1 t v h
    obtain ⟨r1, r2⟩ := R.slots t _ h1
    exact ⟨r1, UU hb hk v3 h2 r2⟩
  · have he := Ad ajk p.1 (List.mem_map.2 ⟨p, hp, rfl⟩)
    have hr := R.fH p hp
    revert he hr
    generalize p.1 = v
    intro he hr
    cases v with
    | u x =>
      simp only [mAV, Option.map_eq_some_iff] at he
      obtain ⟨y, h2, e⟩ := he
      cases e
      exact UU hb hk v3 h2 hr
    | _ => cases he
  · obtain ⟨b0, cs0, h1, h2, h3⟩ := (Px v2 b).1 cs h
    obtain ⟨B, c, T, e1, e2, e3, e4⟩ := R.boxes b0 cs0 h2
    obtain ⟨g1, g2⟩ := Dh h3
    refine ⟨B, c, T, by simp [Mp.view, h1, e1], e2, by rw [g1]; exact e3, fun j hj => ?_⟩
    rw [g1] at hj
    obtain ⟨u, hu, hr⟩ := e4 j hj
    exact ⟨u, hu, Ce hb hk v3 (g2 j hj) hr⟩
  · simp [Mp.view, (Px v2 b).2 h]
  · cases hL : lk st'.lb k with
    | none => rw [hL] at h; cases h
    | some L =>
      rw [hL] at h
      obtain ⟨k0, y, h1, h2, h3⟩ := (yZ v3 k).1 _ hL
      obtain ⟨r1, r2⟩ := R.lT k0 x (by rw [h2, ← Vf h3]; exact h)
      refine ⟨r1, fun B hB => ?_⟩
      simp only [Mp.view, h1, Option.bind_some] at hB
      exact Row.ext jJ rfl (r2 B hB)
  · simp only [Mp.view]
    cases e : rk ks k with
    | none => rfl
    | some k0 =>
      obtain ⟨y, x, e1, e2, e3⟩ := (yZ v3 k).2 k0 e
      exact R.gu k0 (by rw [e1, ← Vf e2, ← e3]; exact h)
  · have hin : ∀ k j B, (m.view bs ks).inn k j = some B → ∃ k0, rk ks k = some k0 ∧ m.inn k0 j = some B := fun k j B h => by
      simpa only [Mp.view, Option.bind_eq_some_iff] using h
    refine ⟨fun k x h => ?_, fun k j B h => ?_, fun k j B h => ?_, fun k j k' j' B h h' => ?_, fun k j k' B h h' => ?_, fun k j b B h h' => ?_⟩
    · obtain ⟨k0, y, h1, h2, h3⟩ := (yZ v3 k).1 _ h
      obtain rfl := (kH h3).1
      obtain ⟨g1, g2, g3⟩ := R.aX.ok k0 x h2
      have e1 : (m.view bs ks).own k = m.own k0 := by simp [Mp.view, h1]
      have e2 : ∀ j, (m.view bs ks).inn k j = m.inn k0 j := fun j => by simp [Mp.view, h1]
      refine ⟨g1, g2, fun j hj => ⟨(g3 j hj).1, ?_⟩⟩
      rcases (g3 j hj).2 with ⟨q1, q2⟩ | ⟨q1, ⟨B, u, q2, q3, q4⟩, q5⟩
      · exact .inl ⟨q1, by rw [e2]; exact q2⟩
      · exact .inr ⟨q1, ⟨B, u, by rw [e1]; exact q2, q3, by rw [e2]; exact q4⟩, fun B' h' => Row.ext jJ rfl (q5 B' (by rw [← e2]; exact h'))⟩
    · obtain ⟨k0, e, h⟩ := hin k j B h
      obtain ⟨x, q1, q2⟩ := R.aX.only k0 j B h
      obtain ⟨y, x', f1, f2, f3⟩ := (yZ v3 k).2 k0 e
      rw [q1] at f1
      obtain rfl := Option.some.inj f1
      obtain rfl := Option.some.inj f2
      exact ⟨x, f3, q2⟩
    · obtain ⟨k0, _, h⟩ := hin k j B h
      exact R.aX.blk _ _ _ h
    · obtain ⟨k0, e, h⟩ := hin k j B h
      obtain ⟨k1, e', h'⟩ := hin k' j' B h'
      obtain ⟨rfl, rfl⟩ := R.aX.inj _ _ _ _ _ h h'
      have := (mJ hk).2 e
      rw [(mJ hk).2 e'] at this
      exact ⟨(Option.some.inj this).symm, rfl⟩
    · obtain ⟨k0, e, h⟩ := hin k j B h
      simp only [Mp.view, Option.bind_eq_some_iff] at h'
      obtain ⟨k1, _, h'⟩ := h'
      exact R.aX.own _ _ _ _ h h'
    · obtain ⟨k0, e, h⟩ := hin k j B h
      simp only [Mp.view, Option.bind_eq_some_iff] at h'
      obtain ⟨b0, _, h'⟩ := h'
      exact R.aX.box _ _ _ _ h h'
  · refine ⟨fun k x h => ?_, fun k B h => ?_, fun k k' B h h' => ?_⟩
    · obtain ⟨k0, y, h1, h2, h3⟩ := (yZ v3 k).1 _ h
      obtain ⟨e0, e1⟩ := kH h3
      subst e0
      obtain ⟨B, g1, g2⟩ := R.sets.ok k0 x h2
      refine ⟨B, by simp [Mp.view, h1, g1], ?_⟩
      cases x with
      | keys y => exact g2
      | tab y => exact absurd rfl (e1 y)
    · simp only [Mp.view, Option.bind_eq_some_iff] at h
      obtain ⟨k0, _, h⟩ := h
      exact R.sets.blk _ _ h
    · simp only [Mp.view, Option.bind_eq_some_iff] at h h'
      obtain ⟨k0, e, h⟩ := h
      obtain ⟨k1, e', h'⟩ := h'
      obtain rfl := R.sets.inj _ _ _ h h'
      have := (mJ hk).2 e
      rw [(mJ hk).2 e'] at this
      exact (Option.some.inj this).symm
  · simp only [Mp.view, Option.bind_eq_some_iff] at h
    obtain ⟨k0, _, h⟩ := h
    exact R.dH _ _ h
  · simp only [Mp.view, Option.bind_eq_some_iff] at h
    obtain ⟨k0, _, h⟩ := h
    exact R.fM _ _ h
  · simp only [Mp.view, Option.bind_eq_some_iff] at h h'
    obtain ⟨k0, e, h⟩ := h
    obtain ⟨k1, e', h'⟩ := h'
    obtain rfl := R.iK _ _ _ h h'
    have := (mJ hk).2 e
    rw [(mJ hk).2 e'] at this
    exact (Option.some.inj this).symm
  · simp only [Mp.view, Option.bind_eq_some_iff] at h h'
    obtain ⟨k0, e, h⟩ := h
    obtain ⟨k1, e', h'⟩ := h'
    obtain rfl := R.jS _ _ _ h h'
    have := (mJ hb).2 e
    rw [(mJ hb).2 e'] at this
    exact (Option.some.inj this).symm
  · simp only [Mp.view, Option.bind_eq_some_iff] at h h'
    obtain ⟨k0, _, h⟩ := h
    obtain ⟨b0, _, h'⟩ := h'
    exact R.qx _ _ _ h h'
def St.O8 (st:St) (t k s:Nat):St:=⟨(t,.c (.own k))::st.sl,st.bx,(k,.owned (.sl s 0 fun _=>[]))::st.lb⟩
end
section
variable {P:Program} {ty:iE} {tb:oC} {n:Nat} {draw:List Oper→St→Prop} {fin':Bo→St→Prop} {stop:List K→St→Prop} {k:List K} {st:St} {fH:List AV}
theorem Stop.loop (S:Stop P ty tb n draw fin' stop fH) {c:Code} {A:Type} (head:A→St) (inv:A→Prop) (rank:A→Nat) (a0:A) (h0:inv a0)
 (init:stop (.lp c::k) (head a0)→stop (.lp c::k) st)
 (round:∀ a,inv a→(∀ a',inv a'→rank a'<rank a→stop (.lp c::k) (head a'))→stop (.code c:: .lp c::k) (head a)):stop (.lp c::k) st:=by
 refine init ?_
 have key:∀ r a,rank a≤r→inv a→stop (.lp c::k) (head a):=by
  intro r
  induction r with
  | zero=>intro a hr hi; exact S.lp (round a hi (fun a' hi' hlt=>by omega))
  | succ r ih=>intro a hr hi; exact S.lp (round a hi (fun a' hi' hlt=>ih a' (by omega) hi'))
 exact key _ a0 (Nat.le_refl _) h0
end
attribute [go_sem] mAV xP ZO LC mAC Pq mAU mSl mBx mLb Xg IL lS View
end Go.dG
set_option linter.unusedVariables false
set_option linter.unusedSimpArgs false
namespace Go.dG
inductive mQ:D→D→Prop
 | refl (d):mQ d d
 | nil (s s' g g'):mQ (.sl s 0 g) (.sl s' 0 g')
 | sl (s n g g') (hl:∀ i,i<n→(g i).length=(g' i).length) (he:∀ i j,i<n→j<s→mQ ((g i).getD j .undef) ((g' i).getD j .undef)):mQ (.sl s n g) (.sl s n g')
 | pV (l l'):mQ (.pt false l) (.pt false l')
 | Lp (s g):mQ .nl (.sl s 0 g)
 | pt (b l l') (hl:l.length=l'.length) (he:∀ j,j<l.length→mQ (l.getD j .undef) (l'.getD j .undef)):mQ (.pt b l) (.pt b l')
theorem RD.eqv {w:World} {S:Nat→Prop} {d d':D} {v:Value} (h:mQ d d') (hr:RD w S d v):RD w S d' v:=by
 induction h generalizing v with
 | refl d=>exact hr
 | nil s s' g g'=>
  cases hr with
  | sl0 s g ao cap=>exact .sl0 _ _ _ _
  | sl s n g B o cap f hn=>omega
 | sl s n g g' hl he ih=>
  cases hr with
  | sl0 s g ao cap=>exact .sl0 _ _ _ _
  | sl s n g B o cap f hn hcap hB hS hl' hc hr=>
   exact .sl s n g' B o cap f hn hcap hB hS (fun i hi=>by rw [← hl i hi]; exact hl' i hi) hc (fun i j hi hj=>ih i j hi hj (hr i j hi hj))
 | pV l l'=>cases hr; exact .pV l'
 | Lp s g=>cases hr; exact .sl0 _ _ _ _
 | pt b l l' hl he ih=>
  cases hr with
  | pV=>exact .pV l'
  | ptr l B o f hB hS hc hr=>exact .ptr l' B o f hB hS (fun j hj=>hc j (by rw [hl]; exact hj)) (fun j hj=>ih j (by rw [hl]; exact hj) (hr j (by rw [hl]; exact hj)))
def mP (x y:D):Prop:=
 x.cu=true∧y.cu=true∧x.stride=y.stride∧x.len=y.len∧∀ i,i<x.len→(x.nth i).length=(y.nth i).length∧∀ j,mQ ((x.nth i).getD j .undef) ((y.nth i).getD j .undef)
theorem mP.refl {x:D} (h:x.cu=true):mP x x:=⟨h,h,rfl,rfl,fun _ _=>⟨rfl,fun _=> .refl _⟩⟩
theorem mP.eqv {x y:D} (h:mP x y):mQ x y:=by
 obtain ⟨h1,h2,h3,h4,h5⟩:=h
 rw [D.eta h1,D.eta h2, ← h3, ← h4]
 exact .sl _ _ _ _ (fun i hi=>(h5 i hi).1) (fun i j hi _=>(h5 i hi).2 j)
theorem mP.ZA {x y:D} (h1:x.cu=true) (h2:y.cu=true) (h3:x.stride=y.stride) (h4:x.len=y.len) (h5:∀ i,i<x.len→x.nth i=y.nth i):mP x y:=
 ⟨h1,h2,h3,h4,fun i hi=>by rw [h5 i hi]; exact ⟨rfl,fun _=> .refl _⟩⟩
theorem Row.eqv {w:World} {S:Nat→Prop} {B:Nat} {x y:D} (h:mP x y) (hr:Row w S B x):Row w S B y:=by
 obtain ⟨c,T,hc,hs,hx⟩:=hr
 obtain ⟨h1,h2,h3,h4,h5⟩:=h
 refine ⟨c,T,hc,h2,fun i hi=> ?_⟩
 rw [← h4] at hi
 obtain ⟨g1,g2⟩:=hx i hi
 refine ⟨by rw [← (h5 i hi).1,g1,h3],fun j hj=> ?_⟩
 rw [← h3] at hj
 obtain ⟨u,hu,hd⟩:=g2 j hj
 exact ⟨u,by rw [← h3]; exact hu,hd.eqv ((h5 i hi).2 j)⟩
theorem l7.eqv {w:World} {o:Option Nat} {x y:D} {v:Value} (h:mP x y) (hr:l7 w o x v):l7 w o y v:=by
 obtain ⟨h1,h2,h3,h4,h5⟩:=h
 cases o with
 | none=>exact ⟨hr.1,by rw [← h4]; exact hr.2⟩
 | some B=>
  obtain ⟨cap,c,T,e1,e2,e3,e4⟩:=hr
  exact ⟨cap,c,T,by rw [← h4]; exact e1,e2,by rw [← h3]; exact e3,by rw [← h4]; exact e4⟩
def qw (x y:D):Prop:=x.cu=true∧y.cu=true∧x.stride=y.stride∧x.len=y.len∧∀ i,i<x.len→(x.nth i).length=(y.nth i).length∧mP (yd x i) (yd y i)
theorem qw.fU {x y:D} (h:qw x y):mP x.fU y.fU:= .ZA rfl rfl h.2.2.1 h.2.2.2.1 (fun _ _=>rfl)
theorem VB {d:D} {s:ByteArray}:(mQ (.str s) d→d= .str s)∧(mQ d (.str s)→d= .str s):=⟨fun h=>by cases h; rfl,fun h=>by cases h; rfl⟩
theorem VX.eqv {w:World} {B:Nat} {x y:D} (h:VX w B x) (e:mP x y):VX w B y:=by
 obtain ⟨es,c,h1,h2,h3⟩:=h
 obtain ⟨e1,e2,e3,e4,e5⟩:=e
 refine ⟨es,c,h1,h2,fun s=>(h3 s).trans ⟨fun ⟨i,hi,hs⟩=>⟨i,by rw [← e4]; exact hi,?_⟩,fun ⟨i,hi,hs⟩=>⟨i,by rw [e4]; exact hi,?_⟩⟩⟩
 ·have:=(e5 i hi).2 0
  unfold yd at hs ⊢
  rw [hs] at this
  exact VB.1 this
 ·have:=(e5 i (by rw [e4]; exact hi)).2 0
  unfold yd at hs ⊢
  rw [hs] at this
  exact VB.2 this
def Gw:AC→AC→Prop
 | .d x,.d y=>mQ x y
 | .dD,.d y=>y.cu=true∧y.len=0
 | .dK l 0,.d y=>mQ (.pt true l) y
 | .clo g [],.d y=>y= .fn g
 | a,b=>a=b
def zk:List AC→List AC→Prop
 | [],[]=>True
 | x::r,y::s=>Gw x y∧zk r s
 | _,_=>False
def abk:AV→AV→Prop
 | .u (.c x),.u (.c y)=>Gw x y
 | .u (.agg l),.u (.agg r)=>zk l r
 | _,_=>False
def agL:MD→MD→Prop
 | .keys x,.keys y=>mP x y
 | _,_=>False
def zf:eX→eX→Prop
 | .owned x,.owned y=>mP x y
 | .deep x,.deep y=>qw x y
 | .set x,.set y=>agL x y
 | .shared x,.shared y=>y.cu=true∧mQ x y
 | .dead,.dead=>True
 | _,_=>False
def Hy {α:Type} (R:α→α→Prop):List (Nat×α)→List (Nat×α)→Prop
 | [],[]=>True
 | (k,x)::r,(k',y)::s=>(k=k'∧R x y)∧Hy R r s
 | _,_=>False
theorem sV {α:Type} {R:α→α→Prop}:∀ {l l':List (Nat×α)},Hy R l l'→∀ k,(∀ y,lk l' k=some y→∃ x,lk l k=some x∧R x y)∧(∀ x,lk l k=some x→∃ y,lk l' k=some y∧R x y)
 | [],[],_,k=>⟨fun _ h=>(by cases h),fun _ h=>(by cases h)⟩
 | [],_::_,h,_=>h.elim
 | _::_,[],h,_=>h.elim
 | (a,x)::r,(b,y)::s,h,k=>by
  obtain ⟨⟨rfl,h1⟩,h2⟩:=h
  simp only [lk]
  by_cases e:a=k
  ·simp only [if_pos e]
   exact ⟨fun y' hy=>⟨x,rfl,by obtain rfl:=Option.some.inj hy; exact h1⟩,fun x' hx=>⟨y,rfl,by obtain rfl:=Option.some.inj hx; exact h1⟩⟩
  ·simp only [if_neg e]
   exact sV h2 k
theorem mQ.nth {x y:D} (h:mQ x y) {i:Nat} (hi:i<x.len):i<y.len∧x.stride=y.stride∧(x.nth i).length=(y.nth i).length∧∀ j,j<x.stride→mQ ((x.nth i).getD j .undef) ((y.nth i).getD j .undef):=by
 cases h with
 | refl d=>exact ⟨hi,rfl,rfl,fun _ _=> .refl _⟩
 | nil s s' g g'=>exact absurd hi (by simp [D.len])
 | sl s n g g' hl he=>exact ⟨hi,rfl,hl i hi,fun j hj=>he i j hi hj⟩
 | pV=>exact absurd hi (by simp [D.len])
 | Lp=>exact absurd hi (by simp [D.len])
 | pt=>exact absurd hi (by simp [D.len])
theorem Ptr.eqv {w:World} {S:Nat→Prop} {l r:List D} {off:Nat} {v:Value} (hl:l.length=r.length) (he:∀ j,j<l.length→mQ (l.getD j .undef) (r.getD j .undef)) (h:Ptr w S l off v):Ptr w S r off v:=by
 obtain ⟨B,o,h1,h2,h3,h4⟩:=h
 refine ⟨B,o,h1,h2,h3,fun j hj=> ?_⟩
 rw [← hl] at hj
 obtain ⟨u,hu,hr⟩:=h4 j hj
 exact ⟨u,hu,hr.eqv (he j hj)⟩
section
variable {cx:Cx} {st st':St} {m:Mp} {a:Act} {w:World}
theorem xA {lb lb' : Nat → Option eX} (hl : ∀ k x, lb k = some x → ∃ y, lb' k = some y ∧ zf x y) {x y : AC} {v : Value} (h : Gw x y) (hr : eU cx m w lb x v) : eU cx m w lb' y v := by
  cases x with
  | d x => cases y with
    | d y => exact RD.eqv h hr
    | _ => cases h
  | undef => cases h; exact hr
  | dD => cases y with
    | d y =>
      obtain ⟨h1, h2⟩ := h
      have hr : v = .slice none 0 0 := hr
      subst hr
      cases y with
      | sl s n g => obtain rfl : n = 0 := h2
                    exact RD.sl0 _ _ _ _
      | _ => cases h1
    | _ => first | (cases h; exact hr) | cases h
  | ref b off => cases h; exact hr
  | dK l off =>
    cases off with
    | zero => cases y with
      | d y => exact RD.eqv h (Cc.2 hr)
      | _ => first | (cases h; done) | (cases h; exact hr)
    | succ o => cases h; exact hr
  | clo f caps =>
    cases caps with
    | nil => cases y with
      | d y => cases h; rw [Iw hr]; exact RD.fn f
      | _ => first | (cases h; done) | (cases h; exact hr)
    | cons _ _ => cases h; exact hr
  | V4 l => cases h; exact hr
  | VI x => cases h; exact hr
  | glob g off => cases h; exact hr
  | uF b off n s => cases h; exact hr
  | bnd f l => cases h; exact hr
  | own k =>
    cases h
    simp only [eU] at hr ⊢
    cases hk : lb k with
    | none => rw [hk] at hr; exact hr.elim
    | some L =>
      rw [hk] at hr
      obtain ⟨L', e1, e2⟩ := hl k L hk
      rw [e1]
      cases L <;> cases L' <;> first | exact e2.elim | skip
      · exact hr
      · exact l7.eqv e2 hr
      · exact ⟨e2.1, RD.eqv e2.2 hr.2⟩
      · exact l7.eqv (x := D.fU _) (y := D.fU _) e2.fU hr
      · exact hr
  | gQ k i off =>
    cases h
    simp only [eU] at hr ⊢
    cases hk : lb k with
    | none => rw [hk] at hr; exact hr.elim
    | some L =>
      rw [hk] at hr
      obtain ⟨L', e1, e2⟩ := hl k L hk
      rw [e1]
      cases L <;> cases L' <;> first | exact e2.elim | skip
      · exact hr
      · obtain ⟨h1, h2, h3, h4, h5⟩ := e2
        exact ⟨by rw [← h4]; exact hr.1, by rw [← h3]; exact hr.2⟩
      · obtain ⟨g1, g2, g3⟩ := hr
        obtain ⟨n1, n2, n3, n4⟩ := e2.2.nth g1
        exact ⟨n1, by rw [← n3, g2, n2], Ptr.eqv n3 (fun j hj => n4 j (by omega)) g3⟩
      · obtain ⟨h1, h2, h3, h4, h5⟩ := e2
        exact ⟨by rw [← h4]; exact hr.1, by rw [← h3]; exact hr.2⟩
      · exact hr
theorem vW:∀ {l r:List AC},zk l r→r.length=l.length∧∀ i,i<l.length→Gw (l.getD i .undef) (r.getD i .undef)
 | [],[],_=>⟨rfl,fun i hi=>absurd hi (by simp)⟩
 | [],_::_,h=>h.elim
 | _::_,[],h=>h.elim
 | x::l,y::r,h=>by
  obtain ⟨g1,g2⟩:=vW h.2
  refine ⟨by simp [g1],fun i hi=> ?_⟩
  cases i with
  | zero=>simpa using h.1
  | succ i=>simpa using g2 i (by simpa using hi)
theorem D6 (x:AC):Gw x x:=by
 cases x<;>first | exact mQ.refl _ | rfl | (rename_i l off; cases off<;>rfl)
theorem KH {lb lb':Nat→Option eX} (hl:∀ k x,lb k=some x→∃ y,lb' k=some y∧zf x y) {x:AV} {v:Value} (hr:RA cx m w lb x v):RA cx m w lb' x v:=by
 have hu:∀ {x:AU} {v:Value},RU cx m w lb x v→RU cx m w lb' x v:=fun {x v} hr=>by
  cases x with
  | c x=>exact xA hl (D6 x) hr
  | agg l=>
   obtain ⟨vs,e,hsz,hc⟩:=hr
   refine ⟨vs,e,hsz,fun i hi=> ?_⟩
   obtain ⟨u,hu,hr⟩:=hc i hi
   exact ⟨u,hu,xA hl (D6 _) hr⟩
 cases x with
 | u x=>exact hu hr
 | Fq l=>
  obtain ⟨vs,e,hsz,hc⟩:=hr
  refine ⟨vs,e,hsz,fun i hi=> ?_⟩
  obtain ⟨u,h1,h2⟩:=hc i hi
  exact ⟨u,h1,hu h2⟩
 | cnd b x=>exact ⟨fun h=>hu (hr.1 h),hr.2⟩
theorem Rel.eqv (R : Rel cx st m a w) (h1 : Hy abk st.sl st'.sl) (h2 : Hy zk st.bx st'.bx) (h3 : Hy zf st.lb st'.lb) : Rel cx st' m a w := by
  have hl : ∀ k x, lk st.lb k = some x → ∃ y, lk st'.lb k = some y ∧ zf x y := fun k => (sV h3 k).2
  refine { defers := R.defers, recs := R.recs, nt := R.nt, env := R.env, size := R.size, old := R.old, s0 := R.s0, slots := fun t v h => ?_, fH := fun p hp => KH hl (R.fH p hp), boxes := fun b cs h => ?_, fP := fun b h => ?_, lT := fun k x h => ?_, gu := fun k h => ?_, aX := ?_, sets := ?_,
           dH := R.dH, fM := R.fM, iK := R.iK, jS := R.jS, qx := R.qx }
  · obtain ⟨u, hu, he⟩ := (sV h1 t).1 v h
    obtain ⟨r1, r2⟩ := R.slots t u hu
    refine ⟨r1, ?_⟩
    cases u with
    | u x =>
      cases v with
      | u y =>
        cases x with
        | c x => cases y with
          | c y => exact xA hl he r2
          | agg l => exact he.elim
        | agg l => cases y with
          | c y => exact he.elim
          | agg r =>
            obtain ⟨vs, e, hsz, hc⟩ := r2
            obtain ⟨g1, g2⟩ := vW he
            refine ⟨vs, e, by rw [g1]; exact hsz, fun i hi => ?_⟩
            rw [g1] at hi
            obtain ⟨z, hz, hr⟩ := hc i hi
            exact ⟨z, hz, xA hl (g2 i hi) hr⟩
      | _ => cases x <;> exact he.elim
    | _ => exact he.elim
  · obtain ⟨cs0, hc, he⟩ := (sV h2 b).1 cs h
    obtain ⟨B, c, T, e1, e2, e3, e4⟩ := R.boxes b cs0 hc
    obtain ⟨g1, g2⟩ := vW he
    refine ⟨B, c, T, e1, e2, by rw [g1]; exact e3, fun j hj => ?_⟩
    rw [g1] at hj
    obtain ⟨u, hu, hr⟩ := e4 j hj
    exact ⟨u, hu, xA hl (g2 j hj) hr⟩
  · refine R.fP b ?_
    cases hb : lk st.bx b with
    | none => rfl
    | some cs =>
      obtain ⟨y, hy, _⟩ := (sV h2 b).2 cs hb
      rw [h] at hy; cases hy
  · cases hL' : lk st'.lb k with
    | none => rw [hL'] at h; cases h
    | some L' =>
      rw [hL'] at h
      obtain ⟨L, hL, he⟩ := (sV h3 k).1 _ hL'
      have hE : ∃ y, od (some L) = some y ∧ mP y x := by
        cases L <;> cases L' <;> first | exact he.elim | (obtain rfl := Option.some.inj h; exact ⟨_, rfl, he⟩) | (obtain rfl := Option.some.inj h; exact ⟨_, rfl, qw.fU he⟩) | (cases h; done)
      obtain ⟨y, e1, e2⟩ := hE
      obtain ⟨r1, r2⟩ := R.lT k y (by rw [hL]; exact e1)
      exact ⟨e2.2.1, fun B hB => Row.eqv e2 (r2 B hB)⟩
  · refine R.gu k ?_
    cases hL : lk st.lb k with
    | none => rfl
    | some L =>
      obtain ⟨L', hL', he⟩ := hl k _ hL
      rw [hL'] at h
      cases L <;> cases L' <;> first | exact he.elim | rfl | (cases h; done)
  · have hdp : ∀ k y, lk st'.lb k = some (.deep y) → ∃ x, lk st.lb k = some (.deep x) ∧ qw x y := fun k y h => by
      obtain ⟨L, hL, he⟩ := (sV h3 k).1 _ h
      cases L with
      | deep x => exact ⟨x, hL, he⟩
      | _ => exact he.elim
    refine ⟨fun k y h => ?_, fun k j B h => ?_, R.aX.blk, R.aX.inj, R.aX.own, R.aX.box⟩
    · obtain ⟨x, hx, he⟩ := hdp k y h
      obtain ⟨g1, g2, g3⟩ := R.aX.ok k x hx
      obtain ⟨e1, e2, e3, e4, e5⟩ := he
      refine ⟨e2, by rw [← e3]; exact g2, fun j hj => ?_⟩
      rw [← e4] at hj
      refine ⟨by rw [← (e5 j hj).1]; exact (g3 j hj).1, ?_⟩
      have e6 := (e5 j hj).2
      rcases (g3 j hj).2 with ⟨q1, q2⟩ | ⟨q1, ⟨B, u, q2, q3, q4⟩, q5⟩
      · rw [q1] at e6; cases e6.1
      · exact .inr ⟨e6.2.1, ⟨B, u, q2, q3, l7.eqv e6 q4⟩, fun B' h' => Row.eqv e6 (q5 B' h')⟩
    · obtain ⟨x, q1, q2⟩ := R.aX.only k j B h
      obtain ⟨L, e1, e2⟩ := hl k _ q1
      cases L with
      | deep y => exact ⟨y, e1, by rw [← e2.2.2.2.1]; exact q2⟩
      | _ => exact e2.elim
  · refine ⟨fun k y h => ?_, R.sets.blk, R.sets.inj⟩
    obtain ⟨L, hL, he⟩ := (sV h3 k).1 _ h
    cases L with
    | set x =>
      cases x with
      | keys x => cases y with
        | keys y => obtain ⟨B, g1, g2⟩ := R.sets.ok k _ hL; exact ⟨B, g1, he.2.1, g2.2.eqv he⟩
        | tab _ => exact he.elim
      | tab _ => exact he.elim
    | _ => exact he.elim
end
section
variable {P:Program} {ty:iE} {tb:oC} {n:Nat} {draw:List Oper→St→Prop} {fin':Bo→St→Prop} {stop:List K→St→Prop} {k:List K} {st:St} {fH:List AV}
def akn (fH:List AV) (ts:List Nat) (bs ks:List (Nat×Nat)) (st st':St):Prop:=
 xP bs ks (lk st.lb) fH∧lS bs∧lS ks∧(∃ s,mSl bs ks st ts=some s∧Hy abk s st'.sl)∧(∃ s,mBx bs ks st bs=some s∧Hy zk s st'.bx)∧∃ s,mLb st ks=some s∧Hy zf s st'.lb
theorem Stop.sees (S:Stop P ty tb n draw fin' stop fH) (ts:List Nat) (bs ks:List (Nat×Nat)) {st':St} (hv:akn fH ts bs ks st st') (h:stop k st'):stop k st:=by
 obtain ⟨h0,h1,h2,⟨s1,e1,z1⟩,⟨s2,e2,z2⟩,⟨s3,e3,z3⟩⟩:=hv
 exact S.weak st' (fun _ m _ _ _ hs R=>⟨m.view bs ks,Rel.eqv (R.view (st':=⟨s1,s2,s3⟩) ⟨h1,h2,e1,e2,e3⟩ (by rw [hs]; exact h0)) z1 z2 z3⟩) h
theorem Stop.O8 (S:Stop P ty tb n draw fin' stop fH) (t j s:Nat) (ht:lk st.sl t=some (.c .dD)) (hj:lk st.lb j=none)
 (h:stop k ⟨(t,.c (.own j))::st.sl,st.bx,(j,.owned (.sl s 0 fun _=>[]))::st.lb⟩):stop k st:=by
 refine S.weak _ (fun cx m a w _ _ R=>⟨m,?_⟩) h
 have R':=R.IJ hj (x:= .sl s 0 fun _=>[]) rfl
 have hno:m.own j=none:=R.xH j hj
 refine { R' with slots:=fun t' v h=> ?_ }
 simp only [lk] at h
 split at h
 ·rename_i e; subst e
  obtain rfl:=Option.some.inj h
  obtain ⟨r1,r2⟩:=R.slots _ _ ht
  refine ⟨r1,?_⟩
  simp only [RA,RU,eU,aU,hno]
  exact ⟨r2,rfl⟩
 ·exact R'.slots t' v h
theorem Stop.pW (S:Stop P ty tb n draw fin' stop fH) (b i j s:Nat) {l:List AC} (hb:lk st.bx b=some l) (hi:l.getD i .undef= .dD) (hil:i<l.length) (hj:lk st.lb j=none)
 (h:stop k ⟨st.sl,(b,l.set i (.own j))::st.bx,(j,.owned (.sl s 0 fun _=>[]))::st.lb⟩):stop k st:=by
 refine S.weak _ (fun cx m a w _ _ R=>⟨m,?_⟩) h
 have R':=R.IJ hj (x:= .sl s 0 fun _=>[]) rfl
 have hno:m.own j=none:=R.xH j hj
 refine { R' with boxes:=fun b' cs h=> ?_,fP:=fun b' h=> ?_ }
 ·simp only [lk] at h
  split at h
  ·rename_i e; subst e
   obtain rfl:=Option.some.inj h
   obtain ⟨B,c,T,g1,g2,g3,g4⟩:=R'.boxes _ _ hb
   obtain ⟨B0,c0,T0,f1,f2,f3,f4⟩:=R.boxes _ _ hb
   refine ⟨B,c,T,g1,g2,by simpa using g3,fun q hq=> ?_⟩
   simp only [List.length_set] at hq
   obtain ⟨u,hu,hr⟩:=g4 q hq
   refine ⟨u,hu,?_⟩
   by_cases hqi:q=i
   ·subst hqi
    rw [f1] at g1
    obtain rfl:=Option.some.inj g1
    rw [f2] at g2
    obtain ⟨rfl,rfl⟩:c0=c∧T0=T:=by simpa using g2
    obtain ⟨u0,hu0,hr0⟩:=f4 q hq
    rw [hu] at hu0
    obtain rfl:=Option.some.inj hu0
    rw [hi] at hr0
    have:(l.set q (.own j)).getD q .undef= .own j:=by simp [List.getD_eq_getElem?_getD,hil]
    rw [this]
    simp only [eU,aU,hno]
    exact ⟨hr0,rfl⟩
   ·have:(l.set i (.own j)).getD q .undef=l.getD q .undef:=by simp [List.getD_eq_getElem?_getD,Ne.symm hqi]
    rw [this]; exact hr
  ·exact R'.boxes b' cs h
 ·simp only [lk] at h
  split at h
  ·cases h
  ·exact R'.fP b' h
def D.dD (t n:Nat):D:= .sl 1 n fun _=>[.sl t 0 fun _=>[]]
def acD (x:D):Prop:=∀ j,j<x.len→x.nth j=[.nl]
theorem Rel.Ov {cx:Cx} {m:Mp} {a:Act} {w:World} (R:Rel cx st m a w) {kl t:Nat} {x:D} (hk:lk st.lb kl=some (.owned x)) (hst:x.stride=1) (hn:acD x) (hB:x.len≠0→∃ B,m.own kl=some B) :
 Rel cx ⟨st.sl,st.bx,(kl,.deep (D.dD t x.len))::st.lb⟩ m a w:=by
 obtain ⟨hsl,hrow⟩:=R.owned kl x hk
 have hm:Move cx m w (lk st.lb) m w (lk ((kl,.deep (D.dD t x.len))::st.lb)):=by
  refine ⟨⟨Nat.le_refl _,fun _ _ _=>rfl,fun _ _ h=>h⟩,fun _ _ h=>h,fun k'=> ?_⟩
  by_cases e:k'=kl
  ·subst e
   simp only [fK,hk,aU]
   exact .inr (.inl ⟨(D.dD t x.len).fU,rfl,(by first | rfl | trivial),(by first | (rw [hst]; rfl) | trivial),(by first | rfl | trivial),fun B _=> .of_eq rfl⟩)
  ·have:=gy (cx:=cx) (st:=st) (m:=m) (m':=m) (w:=w) (w':=w) (fun _ _ h=>h) (fun _ h _=>h) (fun k B _=> .of_eq rfl) rfl k'
   simpa only [fK,aK e] using this
 have hno:∀ j,m.inn kl j=none:=fun j=>by
  cases h:m.inn kl j with
  | none=>rfl
  | some B=>obtain ⟨y,h1,_⟩:=R.aX.only kl j B h; rw [hk] at h1; cases h1
 refine R.jd (.refl _) hm (fun _ _=>rfl) (.refl _) (fun b cs hb=> ?_) R.fP (fun k' y hy=> ?_) (fun k' hk'=> ?_) ⟨fun k' y hy=> ?_,fun k' j B h=> ?_,R.aX.blk,R.aX.inj,R.aX.own,R.aX.box⟩ R.dH R.fM R.iK R.jS R.qx
 ·obtain ⟨B,c,T,h1,h2,h3,h4⟩:=R.boxes b cs hb
  refine ⟨B,c,T,h1,h2,h3,fun j hj=> ?_⟩
  obtain ⟨u,hu,hr⟩:=h4 j hj
  exact ⟨u,hu,hr.move hm⟩
 ·by_cases e:k'=kl
  ·subst e
   rw [aU] at hy
   obtain rfl:=Option.some.inj hy
   refine ⟨rfl,fun B h=> ?_⟩
   obtain ⟨c,T,hc,_,hz⟩:=hrow B h
   refine ⟨c,T,hc,rfl,fun i hi=>⟨rfl,fun j hj=> ?_⟩⟩
   have hj':j<1:=hj
   obtain rfl:j=0:=by omega
   obtain ⟨u,hu,hd⟩:=(hz i hi).2 0 (by omega)
   rw [hst] at hu
   exact ⟨u,hu,.undef _ hd.one⟩
  ·rw [aK e] at hy; exact R.lT k' y hy
 ·have e:k'≠kl:=by rintro rfl; rw [aU] at hk'; cases hk'
  exact R.gu k' (by rw [aK e] at hk'; exact hk')
 ·by_cases e:k'=kl
  ·subst e
   rw [aU] at hy
   cases hy
   refine ⟨rfl,rfl,fun j hj=>⟨rfl,.inr ⟨rfl,?_,fun B h=>by rw [hno j] at h; cases h⟩⟩⟩
   have hj':j<x.len:=hj
   obtain ⟨B,hBB⟩:=hB (by omega)
   obtain ⟨c,T,hc,_,hz⟩:=hrow B hBB
   obtain ⟨u,hu,hd⟩:=(hz j hj').2 0 (by omega)
   rw [hn j hj'] at hd
   have hun:u= .slice none 0 0:=by cases hd; rfl
   subst hun
   rw [hst,Nat.mul_one,Nat.add_zero] at hu
   exact ⟨B,.slice none 0 0,hBB,by simp only [World.cell?,hc]; simpa using hu,by rw [hno j]; exact ⟨rfl,rfl⟩⟩
  ·rw [aK e] at hy; exact R.aX.ok k' y hy
 ·obtain ⟨y,h1,h2⟩:=R.aX.only k' j B h
  have e:k'≠kl:=by rintro rfl; rw [hk] at h1; cases h1
  exact ⟨y,by rw [aK e]; exact h1,h2⟩
theorem Stop.Ov (S:Stop P ty tb n draw fin' stop fH) (kl t s:Nat) {x:D} (hk:lk st.lb kl=some (.owned x)) (hs:lk st.sl s=some (.c (.own kl))) (hst:x.stride=1) (hn:acD x)
 (h:stop k ⟨st.sl,st.bx,(kl,.deep (D.dD t x.len))::st.lb⟩):stop k st:=
 S.weak _ (fun cx m a w _ _ R=>⟨m,R.Ov hk hst hn (fun h0=>by
  obtain ⟨_,hv⟩:=R.slots s _ hs
  simp only [RA,RU,eU,hk] at hv
  cases ho:m.own kl with
  | none=>rw [ho] at hv; exact absurd hv.2 h0
  | some B=>exact ⟨B,rfl⟩)⟩) h
theorem Rel.Oo {cx:Cx} {m:Mp} {a:Act} {w:World} (R:Rel cx st m a w) {kl:Nat} {x y:D} (hk:lk st.lb kl=some (.deep x)) (he:qw x y) :
 Rel cx ⟨st.sl,st.bx,(kl,.owned y)::st.lb⟩ ⟨m.own,m.box,fun q j=>if q=kl then none else m.inn q j,m.mp⟩ a w:=by
 obtain ⟨d1,d2,d3⟩:=R.aX.ok kl x hk
 obtain ⟨e1,e2,e3,e4,e5⟩:=he
 have iY:∀ q j B,(if q=kl then none else m.inn q j)=some B→q≠kl∧m.inn q j=some B:=fun q j B h=>by
  split at h
  ·cases h
  ·exact ⟨by assumption,h⟩
 have hsub:∀ B',fE cx m B'→fE cx ⟨m.own,m.box,fun q j=>if q=kl then none else m.inn q j,m.mp⟩ B':=fun B' h=>⟨h.1,h.2.1,h.2.2.1,fun q j hq=>h.2.2.2 q j (iY q j B' hq).2⟩
 have hin:∀ j B,m.inn kl j=some B→fE cx ⟨m.own,m.box,fun q j=>if q=kl then none else m.inn q j,m.mp⟩ B:=fun j B h=>
  ⟨.inr (R.aX.blk _ _ _ h).1,fun k'=>R.aX.own _ _ k' _ h,fun b=>R.aX.box _ _ b _ h,fun q j' hq=>(iY q j' B hq).1 (R.aX.inj _ _ _ _ _ (iY q j' B hq).2 h).1⟩
 have hrow:∀ B,m.own kl=some B→Row w (fE cx ⟨m.own,m.box,fun q j=>if q=kl then none else m.inn q j,m.mp⟩) B y:=fun B hB=>by
  obtain ⟨c,T,hc,_,hz⟩:=(R.lT kl x.fU (by rw [hk]; rfl)).2 B hB
  refine ⟨c,T,hc,e2,fun i hi=> ?_⟩
  rw [← e4] at hi
  rw [← e3,d2]
  refine ⟨by rw [← (e5 i hi).1]; exact (d3 i hi).1,fun j hj=> ?_⟩
  obtain rfl:j=0:=by omega
  have e6:=(e5 i hi).2
  rcases (d3 i hi).2 with ⟨q1,q2⟩ | ⟨q1,⟨B2,u,q2,q3,q4⟩,q5⟩
  ·rw [q1] at e6; cases e6.1
  ·rw [hB] at q2; cases q2
   simp only [World.cell?,hc] at q3
   refine ⟨u,by simpa using q3,?_⟩
   have hys:(yd y i).cu=true:=e6.2.1
   refine (show RD w _ (yd x i) u from ?_).eqv e6.eqv
   cases ho:m.inn kl i with
   | none=>
    rw [ho] at q4
    obtain ⟨rfl,hn⟩:=q4
    rw [D.eta q1,hn]; exact .sl0 _ _ _ _
   | some B3=>
    rw [ho] at q4
    obtain ⟨cap,c3,T3,rfl,_,_,hle⟩:=q4
    exact vM (Row.ext ⟨Nat.le_refl _,fun _ _ _=>rfl,fun B' _ h=>hsub B' h⟩ rfl (q5 B3 ho)) (hin i B3 ho) (R.aX.blk _ _ _ ho).2 hle
 have hm:Move cx m w (lk st.lb) ⟨m.own,m.box,fun q j=>if q=kl then none else m.inn q j,m.mp⟩ w (lk ((kl,.owned y)::st.lb)):=by
  refine ⟨⟨Nat.le_refl _,fun _ _ _=>rfl,fun B' _ h=>hsub B' h⟩,fun _ _ h=>h,fun k'=> ?_⟩
  by_cases e:k'=kl
  ·subst e
   simp only [fK,hk,aU]
   exact .inr (.inl ⟨y,(by first | rfl | trivial),e4.symm,e3.symm,(by first | rfl | trivial),fun B _=> .of_eq rfl⟩)
  ·have:=gy (cx:=cx) (st:=st) (m:=m) (m':=m) (w:=w) (w':=w) (fun _ _ h=>h) (fun _ h _=>h) (fun k B _=> .of_eq rfl) rfl k'
   simp only [fK,aK e] at this ⊢
   cases hl:lk st.lb k' with
   | none=>trivial
   | some L=>
    simp only [hl] at this ⊢
    cases L with
    | owned z=>exact .inr (.inl ⟨z,(by first | rfl | trivial),(by first | rfl | trivial),(by first | rfl | trivial),(by first | rfl | trivial),fun B _=> .of_eq rfl⟩)
    | deep z=>exact .inr (.inl ⟨z.fU,(by first | rfl | trivial),(by first | rfl | trivial),(by first | rfl | trivial),(by first | rfl | trivial),fun B _=> .of_eq rfl⟩)
    | shared z=>simp
    | dead=>rfl
    | set z=>exact .inr ⟨z,(by first | rfl | trivial),(by first | rfl | trivial)⟩
 refine R.jd (.refl _) hm (fun _ _=>rfl) (.refl _) (fun b cs hb=> ?_) R.fP (fun k' z hz=> ?_) (fun k' hk'=> ?_) ⟨fun k' z hz=> ?_,fun k' j B h=> ?_,fun k' j B h=>R.aX.blk _ _ _ (iY _ _ _ h).2,fun q j q' j' B h h'=>R.aX.inj _ _ _ _ _ (iY _ _ _ h).2 (iY _ _ _ h').2,fun q j k' B h=>R.aX.own _ _ _ _ (iY _ _ _ h).2,fun q j b B h=>R.aX.box _ _ _ _ (iY _ _ _ h).2⟩ R.dH R.fM R.iK R.jS R.qx
 ·obtain ⟨B,c,T,h1,h2,h3,h4⟩:=R.boxes b cs hb
  refine ⟨B,c,T,h1,h2,h3,fun j hj=> ?_⟩
  obtain ⟨u,hu,hr⟩:=h4 j hj
  exact ⟨u,hu,hr.move hm⟩
 ·by_cases e:k'=kl
  ·subst e
   rw [aU] at hz
   obtain rfl:=Option.some.inj hz
   exact ⟨e2,hrow⟩
  ·rw [aK e] at hz
   exact ⟨(R.lT k' z hz).1,fun B h=>((R.lT k' z hz).2 B h).ext hm.ext rfl⟩
 ·have e:k'≠kl:=by rintro rfl; rw [aU] at hk'; cases hk'
  exact R.gu k' (by rw [aK e] at hk'; exact hk')
 ·have e:k'≠kl:=by rintro rfl; rw [aU] at hz; cases hz
  rw [aK e] at hz
  obtain ⟨g1,g2,g3⟩:=R.aX.ok k' z hz
  refine ⟨g1,g2,fun j hj=>⟨(g3 j hj).1,?_⟩⟩
  rcases (g3 j hj).2 with ⟨q1,q2⟩ | ⟨q1,⟨B,u,q2,q3,q4⟩,q5⟩
  ·exact .inl ⟨q1,by simp only [if_neg e]; exact q2⟩
  ·exact .inr ⟨q1,⟨B,u,q2,q3,by simp only [if_neg e]; exact q4⟩,fun B' h'=>(q5 B' (by simpa only [if_neg e] using h')).ext hm.ext rfl⟩
 ·obtain ⟨e,h⟩:=iY _ _ _ h
  obtain ⟨z,h1,h2⟩:=R.aX.only _ _ _ h
  exact ⟨z,by rw [aK e]; exact h1,h2⟩
theorem Stop.Oo (S:Stop P ty tb n draw fin' stop fH) (kl:Nat) {x:D} (y:D) (hk:lk st.lb kl=some (.deep x)) (he:qw x y)
 (h:stop k ⟨st.sl,st.bx,(kl,.owned y)::st.lb⟩):stop k st:=
 S.weak _ (fun cx m a w _ _ R=>⟨_,R.Oo hk he⟩) h
theorem Stop.share (S:Stop P ty tb n draw fin' stop fH) (j:Nat) {x:D} (hj:lk st.lb j=some (.owned x)) (h:stop k ⟨st.sl,st.bx,(j,.shared x)::st.lb⟩):stop k st:=
 S.weak _ (fun _ m _ _ _ _ R=>⟨_,R.share hj⟩) h
end
def jg:List D→List D→Prop
 | [],[]=>True
 | x::r,y::s=>mQ x y∧jg r s
 | _,_=>False
def eqvArg:Arg→Arg→Prop
 | .c x,.c y=>mQ x y
 | .agg l,.agg r=>jg l r
 | .ptr l,.ptr r=>jg l r
 | a,b=>a=b
def eqvArgs:List Arg→List Arg→Prop
 | [],[]=>True
 | x::r,y::s=>eqvArg x y∧eqvArgs r s
 | _,_=>False
theorem zh:∀ {l r:List D},jg l r→r.length=l.length∧∀ i,i<l.length→mQ (l.getD i .undef) (r.getD i .undef)
 | [],[],_=>⟨rfl,fun i hi=>absurd hi (by simp)⟩
 | [],_::_,h=>h.elim
 | _::_,[],h=>h.elim
 | x::l,y::r,h=>by
  obtain ⟨g1,g2⟩:=zh h.2
  refine ⟨by simp [g1],fun i hi=> ?_⟩
  cases i with
  | zero=>simpa using h.1
  | succ i=>simpa using g2 i (by simpa using hi)
theorem JG.eqv {w:World} {S:Nat→Prop} {x y:Arg} {v:Value} (h:eqvArg x y) (hr:JG w S x v):JG w S y v:=by
 cases x with
 | c x=>cases y with
  | c y=>exact RD.eqv h hr
  | _=>cases h
 | agg l=>cases y with
  | agg r=>
   obtain ⟨vs,e,hsz,hc⟩:=hr
   obtain ⟨g1,g2⟩:=zh h
   refine ⟨vs,e,by rw [g1]; exact hsz,fun i hi=> ?_⟩
   rw [g1] at hi
   obtain ⟨u,hu,hd⟩:=hc i hi
   exact ⟨u,hu,hd.eqv (g2 i hi)⟩
  | _=>cases h
 | ptr l=>cases y with
  | ptr r=>
   obtain ⟨g1,g2⟩:=zh h
   exact Ptr.eqv g1.symm g2 hr
  | _=>cases h
 | clo f caps=>cases h; exact hr
theorem jk.eqv {w:World} {S:Nat→Prop}:∀ {l r:List Arg} {vs:List Value},eqvArgs l r→jk w S l vs→jk w S r vs
 | [],[],_,_,h=>h
 | [],_::_,_,h,_=>h.elim
 | _::_,[],_,h,_=>h.elim
 | _::_,_::_,[],_,h=>h.elim
 | _::_,_::_,_::_,h,hr=>⟨JG.eqv h.1 hr.1,jk.eqv h.2 hr.2⟩
theorem mQ.scalar {x y:D} (h:mQ x y) (hs:y.scalar=true):x.scalar=true∧x=y:=by
 cases h with
 | refl d=>exact ⟨hs,rfl⟩
 | nil=>cases hs
 | sl=>cases hs
 | pV=>cases hs
 | Lp=>cases hs
 | pt=>cases hs
theorem mP.flat {x y:D} (h:mP x y) (hf:y.flat):x.flat:=by
 obtain ⟨h1,h2,h3,h4,h5⟩:=h
 intro i hi
 obtain ⟨g1,g2⟩:=h5 i hi
 have hy:=hf i (by omega)
 rw [List.all_eq_true] at hy ⊢
 intro d hd
 obtain ⟨j,hj⟩:=List.mem_iff_getElem?.1 hd
 have hlt:=(List.getElem?_eq_some_iff.1 hj).1
 have hq:=g2 j
 rw [List.getD_eq_getElem?_getD,hj,Option.getD_some] at hq
 refine (hq.scalar (hy _ ?_)).1
 rw [List.getD_eq_getElem?_getD,List.getElem?_eq_getElem (by rw [← g1]; exact hlt)]
 exact List.getElem_mem _
def Bg (al:Bool) (lb:Nat→Option eX):AC→RC→Prop
 | .d y,.d x=>mQ y x∧(al=true∨x.scalar=true)
 | .own k,.own x=>∃ z,lb k=some (.owned z)∧mP z x∧(al=true∨x.flat)
 | .own k,.d x=>(∃ z,lb k=some (.owned z)∧mP z x∧(al=true∨x.flat))∨(al=true∧∃ z,lb k=some (.shared z)∧mQ z x)
 | .dD,.d x=>x.cu=true∧x.len=0
 | .dD,.own x=>x.cu=true∧x.len=0
 | .dK l 0,.d x=>mQ (.pt true l) x∧al=true
 | _,_=>False
def yB (al:Bool) (lb:Nat→Option eX):List AC→List RC→Prop
 | [],[]=>True
 | c::cs,r::rs=>Bg al lb c r∧yB al lb cs rs
 | _,_=>False
def acy (al:Bool) (lb:Nat→Option eX):AU→RV→Prop
 | .c c,.c r=>Bg al lb c r
 | .agg cs,.agg rs=>yB al lb cs rs
 | _,_=>False
def JB (al:Bool) (lb:Nat→Option eX):List AU→List RV→Prop
 | [],[]=>True
 | x::xs,r::rs=>acy al lb x r∧JB al lb xs rs
 | _,_=>False
def abj:RC→RC→Prop
 | .d x,.d y=>mQ x y
 | .own x,.own y=>mP x y
 | _,_=>False
def y9:List RC→List RC→Prop
 | [],[]=>True
 | x::r,y::s=>abj x y∧y9 r s
 | _,_=>False
def VD:RV→RV→Prop
 | .c x,.c y=>abj x y
 | .agg l,.agg r=>y9 l r
 | _,_=>False
def DZ:List RV→List RV→Prop
 | [],[]=>True
 | x::r,y::s=>VD x y∧DZ r s
 | _,_=>False
theorem abG {al:Bool} {lb:Nat→Option eX} {c:AC} {r:RC} (h:Bg al lb c r):∃ r',Eh al lb c r'∧abj r' r:=by
 cases c with
 | d y=>cases r with
  | d x=>exact ⟨.d y,⟨rfl,h.2.imp id (fun hs=>(h.1.scalar hs).1)⟩,h.1⟩
  | own x=>exact h.elim
 | own k=>cases r with
  | d x=>
   rcases h with ⟨z,h1,h2,h3⟩ | ⟨h1,z,h2,h3⟩
   ·exact ⟨.d z,.inl ⟨h1,h3.imp id (fun hf=>h2.flat hf)⟩,h2.eqv⟩
   ·exact ⟨.d z,.inr ⟨h1,h2⟩,h3⟩
  | own x=>
   obtain ⟨z,h1,h2,h3⟩:=h
   exact ⟨.own z,⟨h1,h3.imp id (fun hf=>h2.flat hf)⟩,h2⟩
 | dD=>cases r with
  | d x=>exact ⟨.d x,h,.refl _⟩
  | own x=>exact ⟨.own x,h,.refl h.1⟩
 | dK l off=>
  cases off with
  | zero=>cases r with
   | d x=>exact ⟨.d (.pt true l),⟨rfl,h.2⟩,h.1⟩
   | own x=>exact h.elim
  | succ o=>cases r<;>exact h.elim
 | _=>cases r<;>exact h.elim
theorem VJ {al:Bool} {lb:Nat→Option eX}:∀ {cs:List AC} {rs:List RC},yB al lb cs rs→∃ rs',yC al lb cs rs'∧y9 rs' rs
 | [],[],_=>⟨[],trivial,trivial⟩
 | [],_::_,h=>h.elim
 | _::_,[],h=>h.elim
 | _::_,_::_,h=>by
  obtain ⟨r',h1,h2⟩:=abG h.1
  obtain ⟨rs',h3,h4⟩:=VJ h.2
  exact ⟨r'::rs',⟨h1,h3⟩,⟨h2,h4⟩⟩
theorem aBr {al:Bool} {lb:Nat→Option eX} {x:AU} {r:RV} (h:acy al lb x r):∃ r',afx al lb x r'∧VD r' r:=by
 cases x with
 | c x=>cases r with
  | c r=>obtain ⟨r',h1,h2⟩:=abG h; exact ⟨.c r',h1,h2⟩
  | agg r=>exact h.elim
 | agg x=>cases r with
  | c r=>exact h.elim
  | agg r=>obtain ⟨r',h1,h2⟩:=VJ h; exact ⟨.agg r',h1,h2⟩
theorem agT {al:Bool} {lb:Nat→Option eX}:∀ {cs:List AU} {rs:List RV},JB al lb cs rs→∃ rs',NS al lb cs rs'∧DZ rs' rs
 | [],[],_=>⟨[],trivial,trivial⟩
 | [],_::_,h=>h.elim
 | _::_,[],h=>h.elim
 | _::_,_::_,h=>by
  obtain ⟨r',h1,h2⟩:=aBr h.1
  obtain ⟨rs',h3,h4⟩:=agT h.2
  exact ⟨r'::rs',⟨h1,h3⟩,⟨h2,h4⟩⟩
theorem uh:∀ {r s:List RC},y9 r s→∀ cs,iM cs r=iM cs s∧nK cs r=nK cs s∧uI r=uI s
 | [],[],_,cs=>by cases cs<;>exact ⟨rfl,rfl,rfl⟩
 | [],_::_,h,_=>h.elim
 | _::_,[],h,_=>h.elim
 | x::r,y::s,h,[]=>by
  have:=(uh h.2 []).2.2
  cases x<;>cases y<;>first | exact h.1.elim | exact ⟨rfl,rfl,by simpa [uI] using this⟩
 | x::r,y::s,h,c::cs=>by
  obtain ⟨h1,h2,h3⟩:=uh h.2 cs
  cases x<;>cases y<;>first | exact h.1.elim | exact ⟨by simp [iM,h1],by simp [nK,h2],by simp [uI,h3]⟩
theorem FH {r s:RV} (h:VD r s):y9 r.cells s.cells:=by
 cases r<;>cases s<;>first | exact h.elim | exact h | exact ⟨h,trivial⟩
theorem La:∀ {r s:List RV},DZ r s→∀ xs,kR xs r=kR xs s∧uM xs r=uM xs s
 | [],[],_,xs=>⟨rfl,rfl⟩
 | [],_::_,h,_=>h.elim
 | _::_,[],h,_=>h.elim
 | x::r,y::s,h,[]=>⟨rfl,rfl⟩
 | x::r,y::s,h,c::cs=>by
  obtain ⟨h1,h2⟩:=La h.2 cs
  obtain ⟨g1,g2,_⟩:=uh (FH h.1) c.cells
  exact ⟨by simp [kR,h1,g1],by simp [uM,h2,g2]⟩
theorem Ip {w:World} {S:Nat→Prop} {own:Nat→Option Nat}:∀ {r s:List RC} {j:Nat} {vs:List Value},y9 r s→JF w S own j r vs→JF w S own j s vs
 | [],[],_,_,_,h=>h
 | [],_::_,_,_,h,_=>h.elim
 | _::_,[],_,_,h,_=>h.elim
 | .d x::r,.d y::s,j,[],_,hr=>hr.elim
 | .own x::r,.own y::s,j,[],_,hr=>hr.elim
 | .d x::r,.d y::s,j,v::vs,h,hr=>⟨RD.eqv h.1 hr.1,Ip h.2 hr.2⟩
 | .own x::r,.own y::s,j,v::vs,h,hr=>⟨⟨h.1.2.1,l7.eqv h.1 hr.1.2.1,fun B hB=>Row.eqv h.1 (hr.1.2.2 B hB)⟩,Ip h.2 hr.2⟩
 | .d x::r,.own y::s,j,_,h,_=>h.1.elim
 | .own x::r,.d y::s,j,_,h,_=>h.1.elim
theorem af0 {w:World} {S:Nat→Prop} {own:Nat→Option Nat} {j:Nat} {r s:RV} {v:Value} (h:VD r s) (hr:RRv w S own j r v):RRv w S own j s v:=by
 cases r<;>cases s<;>first | exact h.elim | skip
 ·exact Ip (r:=[_]) (s:=[_]) ⟨h,trivial⟩ hr
 ·obtain ⟨vs,e,h2⟩:=hr
  exact ⟨vs,e,Ip h h2⟩
theorem Y3 {w:World} {S:Nat→Prop} {own:Nat→Option Nat}:∀ {r s:List RV} {j:Nat} {vs:List Value},DZ r s→N7 w S own j r vs→N7 w S own j s vs
 | [],[],_,_,_,h=>h
 | [],_::_,_,_,h,_=>h.elim
 | _::_,[],_,_,h,_=>h.elim
 | _::_,_::_,_,[],_,hr=>hr.elim
 | x::r,y::s,j,v::vs,h,hr=>⟨af0 h.1 hr.1,by
  have:=(uh (FH h.1) []).2.2
  rw [← this]
  exact Y3 h.2 hr.2⟩
theorem ahv {w:World} {S:Nat→Prop} {own:Nat→Option Nat} {r s:List RV} {v:Value} (h:DZ r s) (hr:N8 w S own r v):N8 w S own s v:=by
 match r,s,h with
 | [],[],_=>exact hr
 | [x],[y],h=>exact af0 h.1 hr
 | x::x'::r,y::y'::s,h=>
  obtain ⟨vs,e,h2⟩:=hr
  exact ⟨vs,e,Y3 h h2⟩
 | [],_::_,h=>exact h.elim
 | _::_,[],h=>exact h.elim
 | [_],_::_::_,h=>exact h.2.elim
 | _::_::_,[_],h=>exact h.2.elim
def aa5 (ty:iE) (fn:List ResultVar) (al:Bool) (rs:List RV) (st:St):Prop:=
 (eH ty st fn).1∧JB al (lk st.lb) (eH ty st fn).2 rs∧((kR (eH ty st fn).2 rs).filterMap id).Nodup∧∀ k∈uM (eH ty st fn).2 rs,k∉(kR (eH ty st fn).2 rs).filterMap id
theorem Yy {P:Program} {ty:iE} {tb:oC} {f:Nat} {fn:Func} {c:Code} {sp:fD} {n:Nat} (hty:iw P ty) (htb:fC P tb) (hf:P.funcs[f]? =some fn) (hb:fn.body=some c) (hn:fn.ntmps=n)
 (nrm:List Arg→List Arg) (h:∀ args,sp.pre args→eqvArgs args (nrm args)∧(nrm args).length≤n∧∀ stop,Stop P ty tb n (drawn ty tb n) (kF (aa5 ty fn.results.toList sp.alias (sp.res args))) stop→stop [.code c] (St.begin (nrm args))):Valid P f sp:=by
 refine JV hty htb hf hb hn (fun cx e=>aT hty htb cx e) (fun args=>aa5 ty fn.results.toList sp.alias (sp.res args)) ?_ nrm (fun args w S vs hp hr=>jk.eqv (h args hp).1 hr) (fun args hp=>(h args hp).2.2) (fun args hp=>(h args hp).2.1)
 intro args cx st m a w hp R hfin
 obtain ⟨h1,h2,h3,h4⟩:=hfin
 obtain ⟨rs',g1,g2⟩:=agT h2
 obtain ⟨e1,e2⟩:=La g2 (eH ty st fn.results.toList).2
 obtain ⟨v,k1,k2⟩:=aa4 (P:=P) hty R (fn:=fn) (sp:= { sp with res:=fun _=>rs' }) (args:=args) ⟨h1,g1,by rw [e1]; exact h3,by rw [e1,e2]; exact h4⟩
 obtain ⟨own,q1,q2,q3⟩:=k2.res
 exact ⟨v,k1,⟨k2.env,k2.size,k2.old,own,q1,q2,ahv g2 q3⟩⟩
theorem abe (d:D):mQ d d=True:=eq_true (.refl d)
theorem ae7 {j k:IntKind} {a b:Int}:mQ (.int j a) (.int k b)=(j=k∧a=b):=by
 refine propext ⟨fun h=> ?_,fun ⟨h1,h2⟩=>by subst h1; subst h2; exact .refl _⟩
 cases h; exact ⟨rfl,rfl⟩
theorem abh {a b:Bool}:mQ (.bool a) (.bool b)=(a=b):=by
 refine propext ⟨fun h=> ?_,fun h2=>by subst h2; exact .refl _⟩
 cases h; rfl
attribute [go_sem] Bg yB acy JB aa5 abe ae7 abh akn Hy abk Gw zk zf agL jg eqvArg eqvArgs
end Go.dG
set_option linter.unusedVariables false
set_option linter.unusedSimpArgs false
namespace Go.dG
def Ej:Cap→AV
 | .ref b off=> .c (.ref b off)
 | .dK l off=> .c (.dK l off)
def PE:Nat→List AV→List (Nat×AV)
 | _,[]=>[]
 | i,v::r=>(i,v)::PE (i+1) r
def dF (sl:List (Nat×AV)):List Nat→List (Nat×AV)
 | []=>[]
 | t::r=>match lk sl t with
  | some v=>(t,v)::dF sl r
  | none=>dF sl r
def U0:List AU→AV
 | [x]=> .u x
 | l=> .Fq l
def vH:List (Nat×AV)→List AV
 | []=>[]
 | p::r=>p.2::vH r
theorem xg:∀ l,vH l=l.map (·.2)
 | []=>rfl
 | p::r=>by simp [vH,xg r]
theorem qg (ty:iE) (tb:oC) (nt:Nat) (ops:List Oper):∀ (r p q:List Oper) (st:St),ops=p++r++q→ku ty tb nt ops ((List.range r.length).map (p.length+ ·)) st=iy ty tb nt (ops.map (·.dst)) r st
 | [],p,q,st,_=>rfl
 | o::r,p,q,st,h=>by
  have hl:(List.range (o::r).length).map (p.length+ ·)=p.length::(List.range r.length).map ((p++[o]).length+ ·):=by
   rw [List.length_cons,List.range_succ_eq_map,List.map_cons,List.map_map]
   simp only [List.length_append,List.length_singleton,Nat.add_zero]
   congr 1
   apply List.map_congr_left
   intro x _
   simp; omega
  have ho:ops[p.length]? =some o:=by rw [h,List.append_assoc,List.getElem?_append_right (Nat.le_refl _)]; simp
  rw [hl]
  simp only [ku,ho,iy]
  rw [qg ty tb nt ops r (p++[o]) q _ (by rw [h]; simp)]
section
variable {P:Program} {ty:iE} {tb:oC} {cx:Cx} {st:St} {m m1 m':Mp} {a:Act} {w w':World} {o:Oper} {out:Out} {ws:List Wr}
theorem AZ {ρ:Option Nat} (hty:iw P ty) (htb:fC P tb) {ops:Array Oper} {Q:Exit→Act→World→Prop} {l':List Nat} (l:List Nat):∀ (st:St) (m:Mp) (a:Act) (w:World),Rel cx st m a w→(ku ty tb cx.nt ops.toList l st).1→
 (∀ m' a' w',Rel cx (ku ty tb cx.nt ops.toList l st).2 m' a' w'→wpOpsIn (FR ρ) 0 P ops Q l' a' w')→wpOpsIn (FR ρ) 0 P ops Q (l++l') a w:=by
 induction l with
 | nil=>intro st m a w R _ h; exact h m a w R
 | cons i l ih=>
  intro st m a w R h1 h2
  simp only [List.cons_append,wpOpsIn]
  simp only [ku,Array.getElem?_toList] at h1 h2
  cases ho:ops[i]? with
  | none=>simp only [ho] at h1 h2; exact ih st m a w R h1 h2
  | some o=>
   simp only [ho] at h1 h2
   exact FB hty htb R h1.1 (fun m' a' w' R'=>ih _ m' a' w' R' h1.2 h2)
theorem UZ (hty:iw P ty) (R:Rel cx st m a w) {fn:Func} (h:(eH ty st fn.results.toList).1) :
 ∃ v,(results fn a.tmps).run P w= .ok v w∧RA cx m w (lk st.lb) (U0 (eH ty st fn.results.toList).2) v:=by
 obtain ⟨vs,g1,g2,g3,g4⟩:=vO (P:=P) hty R h
 have hrun:(fn.results.mapM (yO a.tmps)).run P w= .ok vs.toArray w:=by
  rw [Array.mapM_eq_mapM_toList]
  simp only [Sem.run_map,g1,Result.andThen_ok]
 refine ⟨_,by rw [Cb,Sem.run_bind,hrun]; rfl,?_⟩
 rw [← g3] at g2 g4
 generalize (eH ty st fn.results.toList).2=xs at*
 match xs,vs,g2,g4 with
 | [x],[v],_,g4=>
  obtain ⟨u,hu,hr⟩:=g4 0 (by simp)
  obtain rfl:v=u:=by simpa using hu
  exact hr
 | [],[],_,_=>exact ⟨#[],rfl,rfl,fun i hi=>absurd hi (by simp)⟩
 | x::y::r,vs,g2,g4=>
  rw [dif_neg (by simp [g2])]
  exact ⟨vs.toArray,rfl,by simpa using g2,fun i hi=>by
   obtain ⟨u,hu,hr⟩:=g4 i hi
   exact ⟨u,by simpa using hu,hr⟩⟩
 | [_],[],h,_=>cases h
 | [_],_::_::_,h,_=>simp at h
 | [],_::_,h,_=>cases h
theorem IX:∀ {l:List AV} {i t:Nat} {v:AV},lk (PE i l) t=some v→∃ j,l[j]? =some v∧t=i+j
 | [],_,_,_,h=>by cases h
 | x::r,i,t,v,h=>by
  simp only [PE,lk] at h
  split at h
  ·rename_i e
   obtain rfl:=Option.some.inj h
   exact ⟨0,rfl,by omega⟩
  ·obtain ⟨j,h1,h2⟩:=IX h
   exact ⟨j+1,by simpa using h1,by omega⟩
theorem qF:∀ {sl:List (Nat×AV)} {ts:List Nat} {t:Nat} {v:AV},lk (dF sl ts) t=some v→lk sl t=some v∧(t,v)∈dF sl ts
 | sl,[],_,_,h=>by cases h
 | sl,t0::r,t,v,h=>by
  simp only [dF] at h ⊢
  split at h
  ·rename_i u hu
   simp only [lk] at h
   split at h
   ·rename_i e; subst e; obtain rfl:=Option.some.inj h
    exact ⟨hu,by simp⟩
   ·obtain ⟨h1,h2⟩:=qF h
    exact ⟨h1,List.mem_cons_of_mem _ h2⟩
  ·rename_i hu
   obtain ⟨h1,h2⟩:=qF h
   exact ⟨h1,h2⟩
theorem sS:∀ {sl:List (Nat×AV)} {ts:List Nat} {p:Nat×AV},p∈dF sl ts→lk sl p.1=some p.2
 | sl,[],_,h=>by cases h
 | sl,t0::r,p,h=>by
  simp only [dF] at h
  split at h
  ·rename_i u hu
   rcases List.mem_cons.1 h with rfl | h
   ·exact hu
   ·exact sS h
  ·exact sS h
theorem iZ (st:St):∀ l:List Operand,valsOf st l=l.map (valOf st)
 | []=>rfl
 | x::r=>by simp [valsOf,iZ st r]
def PD (ty:iE) (rs:List ResultVar) (stop:List K→St→Prop) (k:List K) (kept:List (Nat×AV)) (dst:Option Nat) (s:St):Prop:=
 (eH ty s rs).1∧stop k ((⟨kept,s.bx,s.lb⟩:St).done dst ⟨True,U0 (eH ty s rs).2,[]⟩)
def ai8 (P:Program) (ty:iE) (tb:oC) (n':Nat) (qh:List Oper→St→Prop) (stop:List K→St→Prop) (k:List K) (fH:List AV) (ts:List Nat) (dst:Option Nat) (g:Nat) (caps:List Cap) (rs:List ResultVar) (c:Code) (x:Operand) (args:List Operand):Prop×St→Prop
 | (p,st1)=>p∧valOf st1 x= .u (.c (.clo g caps))∧∀ stop',Stop P ty tb n' qh (kF (PD ty rs stop k (dF st1.sl ts) dst)) stop' (fH++vH (dF st1.sl ts))→stop' [.code c] ⟨PE 0 (valsOf st1 args++caps.map Ej),st1.bx,st1.lb⟩
theorem yX {cx:Cx} {w:World}:Marks cx w [] []:=⟨rfl,List.nodup_nil,(fun _ h=>by cases h),(fun _ h=>by cases h),(fun _ h=>by cases h)⟩
theorem KG (R:Rel cx st m a w) {Ds:List Nat} (hm:Marks cx w a.defers Ds):∀ p,p∈cx.recs++Ds.map (fun D=>(D,Obj.deferred (some [])))→cx.w0.heap.size≤p.1∧w.heap[p.1]? =some p.2∧ny p.2:=by
 intro p hp
 rcases List.mem_append.1 hp with hp | hp
 ·exact R.recs p hp
 ·obtain ⟨D,hD,rfl⟩:=List.mem_map.1 hp
  exact ⟨hm.lo D hD,hm.here D hD,fun _ _ _ e=>(by cases e),fun _ _ e=>(by cases e)⟩
theorem Po {cx VH:Cx} {st:St} {m:Mp} {a a1:Act} {w w1:World} (R:Rel VH st m a w) {Ds:List Nat} (hm:Marks cx w1 a1.defers Ds) {L:List (Nat×Obj)} (hL:VH.recs=cx.recs++Ds.map (fun D=>(D,Obj.deferred (some [])))++L:=by simp):Marks cx w a1.defers Ds:=
 { hm with here:=fun D hD=>(R.recs (D,.deferred (some [])) (by rw [hL]; exact List.mem_append.2 (.inl (List.mem_append.2 (.inr (List.mem_map.2 ⟨D,hD,rfl⟩)))))).2.1 }
end
attribute [go_sem] valsOf Ej PE dF U0 vH PD ai8 fO aeY List.take_append_drop kF U8
end Go.dG
set_option linter.unusedVariables false
set_option linter.unusedSimpArgs false
namespace Go.dG
def ah {α:Type} [Inhabited α] (s:Nat) (f:α→List D) (l:List α):D:= .sl s l.length (fun i=>f (l.getD i default))
def aG {α:Type} (g:List D→α) (x:D):List α:=(List.range x.len).map fun i=>g (x.nth i)
def iD:List D→Int | [.int _ n]=>n | _=>0
def dI (n:Int):List D:=[.int .i64 n]
def eI (l:List Int):D:=ah 1 dI l
structure rU (α:Type) where
 enc:α→List Arg
 dec:List Arg→α
 pre:α→Prop
 res:α→List RV
 al:Bool:=false
def rU.sp {α:Type} (T:rU α):fD:=⟨fun a=>eqvArgs a (T.enc (T.dec a))∧T.pre (T.dec a),fun a=>T.res (T.dec a),T.al⟩
theorem RI {α:Type} {P:Program} {ty:iE} {tb:oC} {f:Nat} {fn:Func} {c:Code} {T:rU α} {n:Nat} (hty:iw P ty) (htb:fC P tb) (hf:P.funcs[f]? =some fn) (hb:fn.body=some c) (hn:fn.ntmps=n)
 (h:∀ x,T.pre x→(T.enc x).length≤n∧∀ stop,Stop P ty tb n (drawn ty tb n) (kF (aa5 ty fn.results.toList T.al (T.res x))) stop→stop [.code c] (St.begin (T.enc x))):Valid P f T.sp:=
 Yy hty htb hf hb hn (fun a=>T.enc (T.dec a)) (fun _ ha=>⟨ha.1,(h _ ha.2).1,(h _ ha.2).2⟩)
theorem Yz {α:Type} {P:Program} {f:Nat} {T:rU α} (h:∀ x,¬ T.pre x):Valid P f T.sp:=
 fun S0 w args vs h1 h2 h3 h4=>absurd h4.2 (h _)
theorem fC.nil {P:Program}:fC P (lk []):=fun _ _ h=>by cases h
theorem fC.cons {P:Program} {l:List (Nat×fD)} {f:Nat} {sp:fD} (hx:aF P f sp) (h:fC P (lk l)):fC P (lk ((f,sp)::l)):=fun g s hs=>by
 simp only [lk] at hs
 split at hs
 ·rename_i e; subst e; obtain rfl:=Option.some.inj hs; exact hx
 ·exact h g s hs
theorem D7 {α:Type} [Inhabited α] (s:Nat) (f:α→List D) (l:List α):(ah s f l).len=l.length:=rfl
theorem Nj {α:Type} [Inhabited α] (s:Nat) (f:α→List D) (l:List α):(ah s f l).stride=s:=rfl
theorem Nk {α:Type} [Inhabited α] (s:Nat) (f:α→List D) (l:List α) (i:Nat):(ah s f l).nth i=f (l.getD i default):=rfl
theorem XM {α:Type} [Inhabited α] (s:Nat) (f:α→List D) (l:List α):(ah s f l).cu=true:=rfl
theorem bZ {α:Type} [Inhabited α] (g:List D→α) (s:Nat) (f:α→List D) (l:List α) (h:∀ a,g (f a)=a):aG g (ah s f l)=l:=by
 simp only [aG,D7,Nk,h]
 apply List.ext_getElem (by simp)
 intro i h1 h2
 simp [List.getD_eq_getElem?_getD,h2]
theorem NC {α:Type} (g:List D→α) (s:Nat) (l:List (List D)):aG g (D.ofList s l)=l.map g:=by
 simp only [aG,D.ofList,D.len,D.nth]
 apply List.ext_getElem (by simp)
 intro i h1 h2
 simp at h2
 simp [List.getD_eq_getElem?_getD,h2]
theorem ath (n:Int):iD (dI n)=n:=rfl
theorem ajW (l:List Int):aG iD (eI l)=l:=bZ _ _ _ _ ath
theorem Qs {α:Type} [Inhabited α] {s:Nat} {f:α→List D} {l:List (List D)} {r:List α} (h:l=r.map f):mQ (D.ofList s l) (ah s f r):=by
 subst h
 refine mP.eqv (mP.ZA rfl rfl rfl (by simp [D.ofList,D.len,ah]) (fun i hi=> ?_))
 simp only [D.ofList,D.len,List.length_map] at hi
 simp [D.ofList,D.nth,ah,List.getD_eq_getElem?_getD,hi]
attribute [go_sem] List.map_cons List.map_nil true_and and_true beq_iff_eq implies_true imp_self or_true true_or or_false false_or and_self List.append_nil List.nil_append List.cons_append List.filterMap_nil List.filterMap_cons Option.toList_none Option.toList_some List.nodup_nil List.not_mem_nil List.length_cons List.length_nil List.getD_cons_zero List.getD_cons_succ not_false_eq_true false_implies true_implies cond_true cond_false List.zip_cons_cons List.zip_nil_left
attribute [go_sem] List.getElem?_cons_zero List.getElem?_cons_succ List.getElem?_nil List.all_cons List.all_nil Bool.and_true Bool.true_and Bool.and_self Bool.and_false Bool.false_and List.drop_zero List.drop_succ_cons List.drop_nil List.take_zero List.take_succ_cons List.take_nil and_false false_and Nat.zero_add List.getD_nil Nat.add_zero List.foldl_cons List.foldl_nil
theorem afu (a b:Bool):(bif a then b else false)=(a && b):=by cases a<;>rfl
theorem aj1 (a b:Bool):(bif a then true else b)=(a || b):=by cases a<;>rfl
theorem Jy (a b:Int):((a != b)=true)=(a≠b):=by simp
theorem Fg (a b:Int):((a != b)=false)=(a=b):=by simp
theorem Jm (p:Prop) [Decidable p]:(decide p=true)=p:=by simp
theorem Fe (p:Prop) [Decidable p]:(decide p=false)=¬p:=by simp
attribute [go_sem] afu aj1 Jy Fg Jm Fe Int.toNat_natCast
theorem AX {α:Type} [Inhabited α] {s:Nat} {f:α→List D} {l:List (List D)} {r:List α} (h:l=r.map f):mQ (D.ofList s l) (ah s f r)=True:=eq_true (Qs h)
attribute [go_sem] AX drawn D7 Nj Nk XM dI ajW NC iD
end Go.dG
set_option linter.unusedVariables false
set_option linter.unusedSimpArgs false
namespace Go.dG
inductive gK (σ ρ:Type) where
 | next (s:σ)
 | out (r:Option ρ)
def aS {σ ρ:Type} (B:σ→gK σ ρ):Nat→σ→Option ρ
 | 0,_=>none
 | n+1,s=>match B s with
  | .next s'=>aS B n s'
  | .out r=>r
def mV {σ ρ:Type} (nx:σ→Prop) (G:ρ→Prop):gK σ ρ→Prop
 | .next s=>nx s
 | .out (some q)=>G q
 | .out none=>False
def aP {α σ ρ:Type} (o:Option α) (f:α→gK σ ρ):gK σ ρ:=
 match o with
 | none=> .out none
 | some v=>f v
section
variable {α σ ρ:Type} {nx:σ→Prop} {G:ρ→Prop}
theorem aH {p:Prop} [Decidable p] {a:Option ρ} {r:ρ} (h:(if p then a else none)=some r):p∧a=some r:=by
 split at h
 ·exact ⟨‹_›,h⟩
 ·cases h
theorem aA {o:Option α} {f:α→Option ρ} {r:ρ} (h:o.bind f=some r):∃ v,o=some v∧f v=some r:=by
 cases o with
 | none=>cases h
 | some v=>exact ⟨v,rfl,h⟩
theorem aC {p:Prop} [Decidable p] {a:gK σ ρ} (h:mV nx G (if p then a else .out none)):p∧mV nx G a:=by
 split at h
 ·exact ⟨‹_›,h⟩
 ·exact h.elim
theorem aQ {o:Option α} {f:α→gK σ ρ} (h:mV nx G (aP o f)):∃ v,o=some v∧mV nx G (f v):=by
 cases o with
 | none=>exact h.elim
 | some v=>exact ⟨v,rfl,h⟩
theorem bK {E:Option ρ} {r:ρ} (h:mV nx (fun q=>q=r) (.out E)):E=some r:=by
 cases E with
 | none=>exact h.elim
 | some q=>exact congrArg some h
theorem bC {q:ρ} (h:mV nx G (.out (some q))):G q:=h
theorem iQ {E:Option (gK σ ρ)} (h:mV nx G (E.getD (.out none))):∃ q,E=some q∧mV nx G q:=by
 cases E with
 | none=>exact h.elim
 | some q=>exact ⟨q,rfl,h⟩
end
section
variable {P:Program} {ty:iE} {tb:oC} {n:Nat} {draw:List Oper→St→Prop} {fin':Bo→St→Prop} {stop:List K→St→Prop} {k:List K} {st:St} {fH:List AV}
theorem Stop.iter (S:Stop P ty tb n draw fin' stop fH) {c:Code} {σ ρ:Type} (head:σ→St) (B:σ→gK σ ρ) (G:ρ→Prop) {fuel:Nat} {s:σ} {q:ρ} (hq:aS B fuel s=some q) (hG:G q)
 (round:∀ s,mV (fun s'=>stop (.lp c::k) (head s')) G (B s)→stop (.code c:: .lp c::k) (head s)):stop (.lp c::k) (head s):=by
 induction fuel generalizing s with
 | zero=>cases hq
 | succ m ih=>
  simp only [aS] at hq
  refine S.lp (round s ?_)
  cases hB:B s with
  | next s'=>rw [hB] at hq; exact ih hq
  | out r=>rw [hB] at hq; subst hq; exact hG
end
section
variable {α:Type} [Inhabited α] {s:Nat} {f:α→List D} {g:List D→α}
theorem mQ.trans {a b c:D} (h:mQ a b) (k:mQ b c):mQ a c:=by
 induction h generalizing c with
 | refl d=>exact k
 | nil s s' g g'=>
  cases k with
  | refl=>exact .nil _ _ _ _
  | nil=>exact .nil _ _ _ _
  | sl s n g g' hl he=>exact .nil _ _ _ _
 | sl s n g g' hl he ih=>
  cases k with
  | refl=>exact .sl _ _ _ _ hl he
  | nil=>exact .nil _ _ _ _
  | sl _ _ _ g2 hl2 he2=>exact .sl _ _ _ _ (fun i hi=>(hl i hi).trans (hl2 i hi)) (fun i j hi hj=>ih i j hi hj (he2 i j hi hj))
 | pV l l'=>
  cases k with
  | refl=>exact .pV _ _
  | pV=>exact .pV _ _
  | pt=>exact .pV _ _
 | Lp s g=>
  cases k with
  | refl=>exact .Lp _ _
  | nil=>exact .Lp _ _
  | sl=>exact .Lp _ _
 | pt b l l' hl he ih=>
  cases k with
  | refl=>exact .pt _ _ _ hl he
  | pV=>exact .pV _ _
  | pt _ _ l2 hl2 he2=>exact .pt _ _ _ (hl.trans hl2) (fun j hj=>ih j hj (he2 j (by rw [← hl]; exact hj)))
def mO (x y:List D):Prop:=x.length=y.length∧∀ j:Nat,mQ (x.getD j .undef) (y.getD j .undef)
theorem mO.refl (x:List D):mO x x:=⟨rfl,fun _=> .refl _⟩
theorem iR:∀ {x y:List D},jg x y→mO x y
 | [],[],_=> .refl _
 | [],_::_,h=>h.elim
 | _::_,[],h=>h.elim
 | a::x,b::y,h=>by
  obtain ⟨h1,h2⟩:=iR h.2
  refine ⟨by simp [h1],fun j=> ?_⟩
  cases j with
  | zero=>simpa using h.1
  | succ j=>simpa using h2 j
def nZ:List (List D)→List (List D)→Prop
 | [],[]=>True
 | x::r,y::s=>jg x y∧nZ r s
 | _,_=>False
theorem Gv:∀ {x y:List (List D)},nZ x y→x.length=y.length∧∀ i:Nat,mO (x.getD i []) (y.getD i [])
 | [],[],_=>⟨rfl,fun _=> .refl _⟩
 | [],_::_,h=>h.elim
 | _::_,[],h=>h.elim
 | a::x,b::y,h=>by
  obtain ⟨h1,h2⟩:=Gv h.2
  refine ⟨by simp [h1],fun j=> ?_⟩
  cases j with
  | zero=>simpa using iR h.1
  | succ j=>simpa using h2 j
def Can (s:Nat) (f:α→List D) (l:List α) (d:D):Prop:=d.cu=true∧d.stride=s∧d.len=l.length∧∀ i,i<l.length→mO (d.nth i) (f (l.getD i default))
def JJ (f:α→List D) (l:List α) (d:D):Prop:=d.len=l.length∧∀ i,i<l.length→mO (d.nth i) (f (l.getD i default))
theorem Can.w {l:List α} {d:D} (h:Can s f l d):JJ f l d:=h.2.2
theorem D5 {l:List α} {d:D} (h:Can s f l d):mP d (ah s f l)=True:=
 eq_true ⟨h.1,rfl,h.2.1,h.2.2.1,fun i hi=>h.2.2.2 i (by rw [← h.2.2.1]; exact hi)⟩
theorem lZ {l:List α} {d:D} (h:Can s f l d):mQ d (ah s f l)=True:=eq_true (mP.eqv (of_eq_true (D5 h)))
theorem rC (l:List α):Can s f l (ah s f l)=True:=eq_true ⟨rfl,rfl,rfl,fun _ _=> .refl _⟩
theorem abT {s':Nat} (l:List α):JJ f l (ah s' f l)=True:=eq_true ⟨rfl,fun _ _=> .refl _⟩
theorem Em {l:List α} {cs:List (List D)} (h:nZ cs (l.map f)):Can s f l (D.ofList s cs)=True:=by
 obtain ⟨h1,h2⟩:=Gv h
 refine eq_true ⟨rfl,rfl,by simpa [D.ofList,D.len] using h1,fun i hi=> ?_⟩
 have:=h2 i
 simpa [D.ofList,D.nth,List.getD_eq_getElem?_getD,hi] using this
theorem fZ {s':Nat} {l:List α} {cs:List (List D)} (h:nZ cs (l.map f)):JJ f l (D.ofList s' cs)=True:=eq_true (Can.w (of_eq_true (Em (s:=s') h)))
theorem afr (k:Nat→List D):Can s f ([]:List α) (.sl s 0 k)=True:=eq_true ⟨rfl,rfl,rfl,fun i hi=>absurd hi (by simp)⟩
theorem abS {s':Nat} (k:Nat→List D):JJ f ([]:List α) (.sl s' 0 k)=True:=eq_true ⟨rfl,fun i hi=>absurd hi (by simp)⟩
theorem NI {l r:List α} {x y:D} (hx:JJ f l x) (hy:JJ f r y):JJ f (l++r) (D.cat x y):=by
 refine ⟨by simp [D.cat,D.len]; rw [← hx.1, ← hy.1]; rfl,fun i hi=> ?_⟩
 have hn:(D.cat x y).nth i=if i<x.len then x.nth i else y.nth (i - x.len):=rfl
 rw [hn,hx.1]
 simp only [List.length_append] at hi
 split
 ·rename_i h
  have:=hx.2 i h
  simpa [List.getD_eq_getElem?_getD,List.getElem?_append_left h,h] using this
 ·rename_i h
  have:=hy.2 (i - l.length) (by omega)
  simpa [List.getD_eq_getElem?_getD,List.getElem?_append_right (Nat.le_of_not_lt h)] using this
theorem lH {l r:List α} {x y:D} (hx:Can s f l x) (hy:JJ f r y):Can s f (l++r) (D.cat x y)=True:=
 eq_true ⟨rfl,hx.2.1,NI hx.w hy⟩
theorem abR {r:List α} {x y:D} (hx:Can s f ([]:List α) x) (hy:JJ f r y):Can s f r (D.cat x y)=True:=
 eq_true ⟨rfl,hx.2.1,by have h9:=NI hx.w hy; rw [List.nil_append] at h9; exact h9⟩
theorem mO.splice {x y:List D} (h:mO x y) (o:Nat) (c:List D):mO (splice x o c) (splice y o c):=by
 obtain ⟨h1,h2⟩:=h
 refine ⟨by simp [Go.dG.splice,h1],fun j=> ?_⟩
 have hg:∀ z:List D,(Go.dG.splice z o c).getD j .undef=if j<min o z.length then z.getD j .undef else if j<min o z.length+c.length then c.getD (j - min o z.length) .undef else z.getD (o+c.length+(j - (min o z.length+c.length))) .undef:=by
  intro z
  simp only [Go.dG.splice,List.getD_eq_getElem?_getD,List.append_assoc,List.getElem?_append,List.length_take,List.getElem?_take,List.getElem?_drop]
  split
  ·rename_i hh; rw [if_pos (by omega)]
  ·rename_i hh
   split
   ·rename_i h3; rw [if_pos (by omega)]
   ·rename_i h3; rw [if_neg (by omega)]; congr 3; omega
 rw [hg x,hg y,h1]
 split
 ·exact h2 j
 ·split
  ·exact .refl _
  ·exact h2 _
theorem afp {l:List α} {x:D} {i o:Nat} {c:List D} {a:α} (hx:Can s f l x) (hc:jg (splice (f (l.getD i default)) o c) (f a)):Can s f (l.set i a) (x.setAt i o c)=True:=by
 refine eq_true ⟨rfl,hx.2.1,by simp only [D.setAt,D.len,List.length_set]; exact hx.2.2.1,fun j hj=> ?_⟩
 have hn:(x.setAt i o c).nth j=if j=i then splice (x.nth i) o c else x.nth j:=rfl
 rw [hn]
 simp only [List.length_set] at hj
 split
 ·rename_i h; subst h
  have e:((l.set j a).getD j default)=a:=by simp [List.getD_eq_getElem?_getD,hj]
  rw [e]
  have h1:=(hx.2.2.2 j hj).splice o c
  have h2:=iR hc
  exact ⟨h1.1.trans h2.1,fun q=>(h1.2 q).trans (h2.2 q)⟩
 ·rename_i h
  have:=hx.2.2.2 j hj
  simpa [List.getD_eq_getElem?_getD,List.getElem?_set,Ne.symm h] using this
theorem abQ {l:List α} {x:D} {i:Nat} {c:List D} {a:α} (hx:Can s f l x) (hn:(f (l.getD i default)).length=c.length) (hc:jg c (f a)):Can s f (l.set i a) (x.setAt i 0 c)=True:=by
 have e:splice (f (l.getD i default)) 0 c=c:=by
  simp only [splice,List.take_zero,List.nil_append,Nat.zero_add]
  rw [List.drop_eq_nil_of_le (by omega),List.append_nil]
 refine eq_true ⟨rfl,hx.2.1,by simp only [D.setAt,D.len,List.length_set]; exact hx.2.2.1,fun j hj=> ?_⟩
 have hn:(x.setAt i 0 c).nth j=if j=i then splice (x.nth i) 0 c else x.nth j:=rfl
 rw [hn]
 simp only [List.length_set] at hj
 split
 ·rename_i h; subst h
  have e2:((l.set j a).getD j default)=a:=by simp [List.getD_eq_getElem?_getD,hj]
  rw [e2]
  have h1:=(hx.2.2.2 j hj).splice 0 c
  rw [e] at h1
  have h2:=iR hc
  exact ⟨h1.1.trans h2.1,fun q=>(h1.2 q).trans (h2.2 q)⟩
 ·rename_i h
  have:=hx.2.2.2 j hj
  simpa [List.getD_eq_getElem?_getD,List.getElem?_set,Ne.symm h] using this
theorem Bh {l:List α} {x:D} {lo hi':Nat} (hx:Can s f l x) (h:hi'≤l.length):Can s f ((l.drop lo).take (hi' - lo)) (x.sub lo hi')=True:=by
 refine eq_true ⟨rfl,hx.2.1,by simp [D.sub,D.len]; omega,fun i hi=> ?_⟩
 simp only [List.length_take,List.length_drop] at hi
 show mO (x.nth (lo+i)) _
 have:=hx.2.2.2 (lo+i) (by omega)
 have h2:i<hi' - lo:=by omega
 simpa [List.getD_eq_getElem?_getD,List.getElem?_take,h2] using this
theorem afq {n:Nat} {a:α} {c:List D} (h:jg c (f a)):Can s f (List.replicate n a) (D.rep s n c)=True:=by
 refine eq_true ⟨rfl,rfl,by simp [D.rep,D.len],fun i hi=> ?_⟩
 simp only [List.length_replicate] at hi
 show mO c _
 have:=iR h
 simpa [List.getD_eq_getElem?_getD,hi] using this
theorem abg {s':Nat} (k:Nat→List D):mQ (.sl s' 0 k) (ah s f ([]:List α))=True:=eq_true (.nil _ _ _ _)
omit [Inhabited α] in
theorem iG (x:D):(aG g x).length=x.len:=by simp [aG]
omit [Inhabited α] in
theorem aby (x y:D):aG g (D.cat x y)=aG g x++aG g y:=by
 apply List.ext_getElem
 ·simp [aG,D.cat,D.len]
 ·intro i h1 h2
  simp only [aG,List.getElem_map,List.getElem_range]
  have hn:(D.cat x y).nth i=if i<x.len then x.nth i else y.nth (i - x.len):=rfl
  rw [hn,List.getElem_append]
  split
  ·rename_i h
   rw [dif_pos (by simpa [aG] using h)]
   simp [aG]
  ·rename_i h
   rw [dif_neg (by simpa [aG] using h)]
   simp [aG]
omit [Inhabited α] in
theorem QA (x:D) (i o:Nat) (c:List D):aG g (x.setAt i o c)=(aG g x).set i (g (splice (x.nth i) o c)):=by
 apply List.ext_getElem
 ·simp [aG,D.setAt,D.len]
 ·intro j h1 h2
  simp only [aG,List.getElem_map,List.getElem_range,List.getElem_set]
  have hn:(x.setAt i o c).nth j=if j=i then splice (x.nth i) o c else x.nth j:=rfl
  rw [hn]
  by_cases h:j=i
  ·subst h; simp
  ·rw [if_neg h,if_neg (Ne.symm h)]
omit [Inhabited α] in
theorem abw (s' n:Nat) (c:List D):aG g (D.rep s' n c)=List.replicate n (g c):=by
 apply List.ext_getElem
 ·simp [aG,D.rep,D.len]
 ·intro j h1 h2
  simp [aG,D.rep,D.nth]
omit [Inhabited α] in
theorem abx (s':Nat) (k:Nat→List D):aG g (.sl s' 0 k)=[]:=rfl
theorem ng (x y:D):(D.cat x y).len=x.len+y.len:=rfl
theorem abI (x y:D):(D.cat x y).cu=true:=rfl
theorem oq (x y:D):(D.cat x y).stride=x.stride:=rfl
theorem Ph (s:Nat) (l:List (List D)):(D.ofList s l).len=l.length:=rfl
theorem Lj (s:Nat) (l:List (List D)):(D.ofList s l).cu=true:=rfl
theorem EU (s:Nat) (l:List (List D)):(D.ofList s l).stride=s:=rfl
theorem FD (x:D) (i o:Nat) (c:List D):(x.setAt i o c).len=x.len:=rfl
theorem OD (x:D) (i o:Nat) (c:List D):(x.setAt i o c).cu=true:=rfl
theorem qB (x:D) (i o:Nat) (c:List D):(x.setAt i o c).stride=x.stride:=rfl
theorem adP (x:D) (a b:Nat):(x.sub a b).len=b - a:=rfl
theorem YM (x:D) (a b:Nat):(x.sub a b).cu=true:=rfl
theorem OA (x:D) (a b:Nat):(x.sub a b).stride=x.stride:=rfl
theorem adY (s n:Nat) (c:List D):(D.rep s n c).len=n:=rfl
theorem Y5 (s n:Nat) (c:List D):(D.rep s n c).cu=true:=rfl
theorem OQ (s n:Nat) (c:List D):(D.rep s n c).stride=s:=rfl
theorem aht (s n:Nat) (k:Nat→List D):(D.sl s n k).len=n:=rfl
theorem adS (s n:Nat) (k:Nat→List D):(D.sl s n k).cu=true:=rfl
theorem Wv (s n:Nat) (k:Nat→List D):(D.sl s n k).stride=s:=rfl
theorem mg {l:List α} (h:∀ a,(f a).all D.scalar=true):(ah s f l).flat=True:=eq_true (fun i _=>h _)
end
def vX {α:Type} [Inhabited α] (f:α→List D) (o:Option α):D:= .pt o.isSome (f (o.getD default))
def decP {α:Type} (g:List D→α):D→Option α
 | .pt true l=>some (g l)
 | _=>none
theorem XY {α:Type} (g:List D→α) (l:List D):decP g (.pt true l)=some (g l):=rfl
theorem Qy {α:Type} (g:List D→α) (l:List D):decP g (.pt false l)=none:=rfl
theorem qj {α:Type} [Inhabited α] {g:List D→α} {f:α→List D} (h:∀ a,g (f a)=a) (o:Option α):decP g (.pt o.isSome (f (o.getD default)))=o:=by
 cases o with
 | none=>rfl
 | some a=>simp [decP,h]
theorem XK {α:Type} [Inhabited α] (f:α→List D) (a:α):vX f (some a)= .pt true (f a):=rfl
theorem XL {α:Type} [Inhabited α] (f:α→List D):vX f none= .pt false (f default):=rfl
theorem abf {l l':List D}:mQ (.pt false l) (.pt false l')=True:=eq_true (.pV _ _)
theorem ajO {α:Type} [Inhabited α] {s:Nat} {f:α→List D}:mQ .nl (ah s f ([]:List α))=True:=eq_true (.Lp _ _)
def kC {α:Type} [Inhabited α] (t:Nat) (f:α→List D) (l:List (List α)) (d:D):Prop:=
 d.cu=true∧d.stride=1∧d.len=l.length∧∀ i,i<l.length→(d.nth i).length=1∧mP (yd d i) (ah t f (l.getD i []))
theorem jh {α:Type} [Inhabited α] {t:Nat} {f:α→List D} {F:List α→List D} (hF:∀ a,F a=[ah t f a]) {l:List (List α)} {d:D} (h:kC t f l d):qw d (ah 1 F l)=True:=
 eq_true ⟨h.1,rfl,h.2.1,h.2.2.1,fun i hi=>by
  obtain ⟨h1,h2⟩:=h.2.2.2 i (by rw [← h.2.2.1]; exact hi)
  have e:(ah 1 F l).nth i=[ah t f (l.getD i [])]:=hF _
  unfold yd at h2 ⊢
  rw [e]
  exact ⟨h1,h2⟩⟩
theorem ji {α:Type} [Inhabited α] {t:Nat} {f:α→List D} {F:List α→List D} (hF:∀ a,F a=[ah t f a]) (l:List (List α)):kC t f l (ah 1 F l)=True:=
 eq_true ⟨rfl,rfl,rfl,fun i hi=>by
  have e:(ah 1 F l).nth i=[ah t f (l.getD i [])]:=hF _
  unfold yd
  rw [e]
  exact ⟨rfl,.refl rfl⟩⟩
theorem GR {α:Type} [Inhabited α] {t n:Nat} {f:α→List D}:kC t f (List.replicate n []) (D.dD t n)=True:=
 eq_true ⟨rfl,rfl,by simp [D.dD,D.len],fun i hi=>by
  refine ⟨rfl,rfl,rfl,rfl,?_,fun j hj=>absurd hj (by simp [yd,D.dD,D.nth,D.len])⟩
  simp only [List.length_replicate] at hi
  simp [yd,D.dD,D.nth,D.len,ah,List.getD_eq_getElem?_getD,hi]⟩
theorem abV {α:Type} [Inhabited α] {t:Nat} {f:α→List D}:kC t f ([]:List (List α)) (D.dD t 0)=True:=GR (n:=0)
theorem abW {α:Type} [Inhabited α] {t:Nat} {f:α→List D} {l:List (List α)} {d:D} (h:kC t f l d):kC t f (l++[[]]) (d.app [.sl t 0 fun _=>[]])=True:=
 eq_true ⟨rfl,h.2.1,by simp only [D.app,D.len,List.length_append,List.length_cons,List.length_nil]; exact congrArg (· +1) h.2.2.1,fun i hi=>by
  have e:(d.app [.sl t 0 fun _=>[]]).nth i=if i=d.len then [.sl t 0 fun _=>[]] else d.nth i:=rfl
  simp only [List.length_append,List.length_cons,List.length_nil] at hi
  unfold yd
  rw [e]
  have hd:=h.2.2.1
  by_cases ei:i=d.len
  ·rw [if_pos ei]
   subst ei
   rw [hd]
   refine ⟨rfl,?_⟩
   have e2:(l++[[]]).getD l.length []=[]:=by simp [List.getD_eq_getElem?_getD]
   rw [e2]
   exact ⟨rfl,rfl,rfl,rfl,fun j hj=>absurd hj (by simp [D.len])⟩
  ·rw [if_neg ei]
   have e2:(l++[[]]).getD i []=l.getD i []:=by simp [List.getD_eq_getElem?_getD,List.getElem?_append_left (show i<l.length by omega)]
   rw [e2]
   exact h.2.2.2 i (by omega)⟩
theorem abU {α:Type} [Inhabited α] {t i:Nat} {f:α→List D} {l:List (List α)} {a:List α} {d c:D} (h:kC t f l d) (hc:Can t f a c):kC t f (l.set i a) ((d.setAt i 0 [.undef]).setAt i 0 [c])=True:=
 eq_true ⟨rfl,h.2.1,by simp only [D.setAt,D.len,List.length_set]; exact h.2.2.1,fun j hj=>by
  simp only [List.length_set] at hj
  obtain ⟨g1,g2⟩:=h.2.2.2 j hj
  by_cases ei:j=i
  ·subst ei
   have e0:((d.setAt j 0 [.undef]).nth j).length=1:=by rw [tY g1 g1]
   refine ⟨tY e0 e0,?_⟩
   rw [BO e0,if_pos rfl]
   have e2:(l.set j a).getD j []=a:=by simp [List.getD_eq_getElem?_getD,hj]
   rw [e2]
   exact of_eq_true (D5 hc)
  ·have e3:((d.setAt i 0 [.undef]).setAt i 0 [c]).nth j=d.nth j:=by
    show (if j=i then _ else (if j=i then _ else d.nth j))=_
    rw [if_neg ei,if_neg ei]
   unfold yd at g2 ⊢
   rw [e3]
   have e2:(l.set i a).getD j []=l.getD j []:=by simp [List.getD_eq_getElem?_getD,List.getElem?_set,Ne.symm ei]
   rw [e2]
   exact ⟨g1,g2⟩⟩
theorem Hr (s n:Nat):acD (D.rep s n [.nl])=True:=eq_true (fun _ _=>rfl)
theorem ZF (t n:Nat):(D.dD t n).len=n:=rfl
theorem afz (x:D) (c:List D):(x.app c).len=x.len+1:=rfl
theorem ajN {b:Bool} {l l':List D} (h:jg l l'):mQ (.pt b l) (.pt b l')=True:=eq_true (.pt _ _ _ (iR h).1 (fun j _=>(iR h).2 j))
attribute [go_sem] ajO GR abV abW abU Hr ZF afz yd
attribute [go_sem] XY Qy XK XL abf ajN
def ql:List Arg→Nat→Nat→Bool
 | .clo g _::_,0,f=>g == f
 | _::r,i+1,f=>ql r i f
 | _,_,_=>false
theorem afh (x:D) (r:List Arg) (i f:Nat):ql (.c x::r) (i+1) f=ql r i f:=(rfl)
theorem afi (l:List D) (r:List Arg) (i f:Nat):ql (.agg l::r) (i+1) f=ql r i f:=(rfl)
theorem afg (l:List D) (r:List Arg) (i f:Nat):ql (.ptr l::r) (i+1) f=ql r i f:=(rfl)
theorem afj (g f:Nat) (c:List (List D)) (r:List Arg):ql (.clo g c::r) 0 f=(g == f):=(rfl)
def fD.or (i f:Nat) (a b:fD):fD:=⟨fun x=>bif ql x i f then a.pre x else b.pre x,fun x=>bif ql x i f then a.res x else b.res x,a.alias⟩
theorem aiy (i f:Nat) (a b:fD) (x:List Arg):(fD.or i f a b).pre x=bif ql x i f then a.pre x else b.pre x:=(rfl)
theorem aix (i f:Nat) (a b:fD) (x:List Arg):(fD.or i f a b).res x=bif ql x i f then a.res x else b.res x:=(rfl)
theorem ar7 (i f:Nat) (a b:fD):(fD.or i f a b).alias=a.alias:=(rfl)
attribute [go_sem] afh afi afg afj aiy aix ar7
theorem aF.or {P:Program} {g i f:Nat} {a b:fD} (ha:aF P g a) (hb:aF P g b) (e:a.alias=b.alias):aF P g (fD.or i f a b):=
 ⟨ha.enter,fun S0 w args vs h1 h2 h3 h4=>by
  cases hc:ql args i f with
  | true=>
   have h4:a.pre args:=by simpa only [fD.or,hc,cond_true] using h4
   refine (ha.valid S0 w args vs h1 h2 h3 h4).mono ?_
   rintro o w' ⟨v,rfl,L⟩
   exact ⟨v,rfl, { L with res:=by simpa only [fD.or,hc,cond_true] using L.res }⟩
  | false=>
   have h4:b.pre args:=by simpa only [fD.or,hc,cond_false] using h4
   refine (hb.valid S0 w args vs h1 h2 h3 h4).mono ?_
   rintro o w' ⟨v,rfl,L⟩
   exact ⟨v,rfl, { L with res:=by simpa only [fD.or,hc,cond_false,e] using L.res }⟩⟩
def acE:List Arg→Nat→Nat→D
 | [],_,_=> .undef
 | .c x::_,0,_=>x
 | .agg l::_,0,j=>l.getD j .undef
 | .ptr l::_,0,j=>l.getD j .undef
 | .clo _ caps::_,0,j=>caps.flatten.getD j .undef
 | _::r,i+1,j=>acE r i j
def aB:D→Int | .int _ n=>n | _=>0
def abB:D→Bool | .bool b=>b | _=>false
def abA:D→ByteArray | .str s=>s | _=> .empty
def dFn:D→Nat | .fn f=>f | _=>0
attribute [go_sem] acE aB abB abA dFn VT abg rC abT afr abS aby QA abw abx ng abI oq Ph Lj EU FD OD qB adP YM OA adY Y5 OQ aht adS Wv
 List.flatten_cons List.flatten_nil and_assoc Option.isSome_some
end Go.dG
set_option linter.unusedVariables false
set_option linter.unusedSimpArgs false
namespace Go.dG
section
variable {P:Program} {ty:iE} {tb:oC} {n:Nat} {draw:List Oper→St→Prop} {fin':Bo→St→Prop} {stop:List K→St→Prop} {k:List K} {st:St} {fH:List AV}
theorem Stop.atG (S:Stop P ty tb n draw fin' stop fH) {id:Nat} {o1 o2:Oper} (t d1 d2 T T' e:Nat) {x:D} {i:TI}
 (h1:o1.op= .move (.tmp t)) (h1d:o1.dst=some d1) (h1g:o1.guard=none) (h2:o2.op= .binOp .eql T (.tmp d1) (.const (.slice none 0 0)) T') (h2d:o2.dst=some d2) (h2g:o2.guard=none)
 (hT:ty T=some i) (hi:i.desc= .slice e) (ht:lk st.sl t=some (.c (.d x))) (hx:x.cu=true) (hd1:d1<n) (hd2:d2<n)
 (h:∀ b:Bool,(b=true→x.len=0)→stop k ((st.slot d1 (.c (.d x))).slot d2 (.c (.d (.bool b))))):stop (.code (.region id #[o1,o2] false)::k) st:=by
 obtain ⟨cx,Q,ρ,rfl,hs,hty,htb,hd0,hfin,hrd,rfl⟩:=S.ex
 intro m a w R
 refine wpIn_region ?_
 show wpOpsIn (FR ρ) 0 P #[o1,o2] (qm P ρ k Q) [0,1] a w
 obtain ⟨_,hv⟩:=R.slots t _ ht
 have R1:=R.slot (t:=d1) (v:= .c (.d x)) (u:=a.tmps.getD t undef) hd1 hv
 simp only [wpOpsIn]
 have w1:Region.wanted o1 (yielded #[o1,o2] a.tmps)=true:=by simp [Region.wanted,h1g]
 simp only [List.getElem?_toArray,List.getElem?_cons_zero,List.getElem?_cons_succ]
 rw [if_pos w1]
 refine kP (fun c e=>by rw [h1] at e; cases e) ?_
 unfold Oper.wp
 have e1:(execOp a.eval o1).run P w= .ok (.value (a.tmps.getD t undef)) w:=by simp [execOp,h1,Act.eval]
 rw [e1,Oper.upon_value,h1d]
 have w2:∀ a':Act,Region.wanted o2 (yielded #[o1,o2] a'.tmps)=true:=fun a'=>by simp [Region.wanted,h2g]
 rw [if_pos (w2 _)]
 refine kP (fun c e=>by rw [h2] at e; cases e) ?_
 have hx1:=R1.slots d1 (.c (.d x)) (by simp [St.slot,lk])
 generalize hq:(a.put (some d1) (a.tmps.getD t undef))=a1 at*
 obtain ⟨_,hx2⟩:=hx1
 have hdat:RD w (fE cx m) x (a1.tmps.getD d1 undef):=hx2
 generalize hu:a1.tmps.getD d1 undef=u at*
 have hsl:∃ ao l c,u= .slice ao l c∧(ao.isNone=true→x.len=0):=by
  cases hdat with
  | sl0 s g ao cap=>exact ⟨ao,0,cap,rfl,fun _=>rfl⟩
  | sl s n g B o cap f hn hcap hB hS hl hc hr=>exact ⟨_,_,_,rfl,fun h=>by cases h⟩
  | _=>cases hx
 obtain ⟨ao,l,c,rfl,hao⟩:=hsl
 have aAu:P.underlying T=some (.slice e):=by rw [(hty T i hT).und,hi]
 have e2:(execOp a1.eval o2).run P w= .ok (.value (.bool ao.isNone)) w:=by
  simp [execOp,h2,Act.eval,hu,eqGuard,binOp,run_equal_slice_nil w T e ao l c aAu]
 unfold Oper.wp
 rw [e2,Oper.upon_value,h2d]
 exact h ao.isNone hao m _ w (R1.slot (t:=d2) (v:= .c (.d (.bool ao.isNone))) hd2 (RD.bool _))
def Ez (s:Nat) (w w':World) (v:Value):Prop:=
 dP w w'∧w.heap.size≤w'.heap.size∧(∀ B,B<w.heap.size→w'.heap[B]? =w.heap[B]?)∧
 (v= .slice none 0 0∨∃ B cap c T,v= .slice (some ⟨B,0,none⟩) 0 cap∧w.heap.size≤B∧B<w'.heap.size∧w'.heap[B]? =some (.cells c T (0,0))∧c.size=cap*s)
def agI (stop:List K→St→Prop) (k:List K) (t d kk s:Nat) (n:Int):Prop×St→Prop
 | (p,st1)=>p∧lk st1.sl t=some (.u (.c (.d (.int .i64 n))))∧lk st1.lb kk=none∧stop k ⟨(d,.c (.own kk))::st1.sl,st1.bx,(kk,.owned (.sl s 0 fun _=>[]))::st1.lb⟩
theorem Rel.atx {cx:Cx} {m:Mp} {a:Act} {w w':World} {st:St} (R:Rel cx st m a w) {s kk:Nat} {v:Value} (hk:lk st.lb kk=none) (h:Ez s w w' v) :
 ∃ m',Rel cx ⟨st.sl,st.bx,(kk,.owned (.sl s 0 fun _=>[]))::st.lb⟩ m' a w'∧RA cx m' w' (lk ((kk,eX.owned (.sl s 0 fun _=>[]))::st.lb)) (.c (.own kk)) v:=by
 obtain ⟨h1,h2,h3,h4⟩:=h
 have key:∀ ob:Option Nat,(∀ B,ob=some B→w.heap.size≤B∧B<w'.heap.size∧∃ c T,w'.heap[B]? =some (.cells c T (0,0)))→
  Rel cx ⟨st.sl,st.bx,(kk,.owned (.sl s 0 fun _=>[]))::st.lb⟩ ⟨fun k=>(match (if k=kk then some (D.sl s 0 fun _=>[]) else none) with | some _=>(if k=kk then ob else none) | none=>m.own k),m.box,m.inn,m.mp⟩ a w':=by
  intro ob hob
  refine R.Va (fun k=>if k=kk then some (D.sl s 0 fun _=>[]) else none) (fun k=>if k=kk then ob else none) h2 h1 h3 (fun k x hx=> ?_) (fun k hx=> ?_) (fun k k' B e e'=> ?_)
  ·split at hx
   ·rename_i e; subst e
    obtain rfl:=Option.some.inj hx
    refine ⟨hk,aU _ _ _,rfl,fun B hB=> ?_⟩
    simp only [if_true] at hB
    obtain ⟨g1,g2,c,T,g3⟩:=hob B hB
    exact ⟨g1,g2,c,T,g3,rfl,fun i hi=>absurd hi (by simp [D.len])⟩
   ·cases hx
  ·split at hx
   ·cases hx
   ·rename_i e
    exact ⟨aK e,by simp [e]⟩
  ·split at e<;>split at e'
   ·rename_i q q'; rw [q,q']
   ·cases e'
   ·cases e
   ·cases e
 rcases h4 with rfl | ⟨B,cap,c,T,rfl,g1,g2,g3,g4⟩
 ·refine ⟨_,key none (fun B h=>by cases h),?_⟩
  simp only [RA,RU,eU,aU,l7,if_true]
  exact ⟨trivial,rfl⟩
 ·refine ⟨_,key (some B) (fun B' h=>by obtain rfl:=Option.some.inj h; exact ⟨g1,g2,c,T,g3⟩),?_⟩
  simp only [RA,RU,eU,aU,l7,if_true]
  exact ⟨cap,c,T,rfl,g3,g4,Nat.zero_le _⟩
theorem Stop.abX (S:Stop P ty tb n draw fin' stop fH) {id:Nat} {ops:Array Oper} (i t d kk s:Nat) {o:Oper} {g:Nat} {fn:Func} {tys:Array Nat} {qn:Int}
 (ho:ops[i]? =some o) (hop:o.op= .call { callee:= .value (.func g),args:= #[.const (.slice none 0 0),.tmp t],argTypes:=tys }) (hg:o.guard=none) (hd:o.dst=some d) (hdn:d<n)
 (hf:P.funcs[g]? =some fn) (hnm:(fn.name == "runtime.NumGoroutine")=false) (hb:fn.body.isNone=false)
 (hC:∀ w:World,Calls P g #[.slice none 0 0,.int .i64 qn] w fun e w'=>∃ v,e= .returned v∧Ez s w w' v)
 (h:agI stop (.ops ops (i+1)::k) t d kk s qn (iy ty tb n (ops.toList.map (·.dst)) (ops.toList.take i) st)) :
 stop (.code (.region id ops false)::k) st:=by
 obtain ⟨cx,Q,ρ,rfl,hs,hty,htb,hd0,hfin,hrd,rfl⟩:=S.ex
 intro m a w R
 refine wpIn_region ?_
 have hi:i<ops.size:=(Array.getElem?_eq_some_iff.1 ho).1
 have hsplit:List.range ops.size=List.range i++i::fO ops (i+1):=by
  have e1:ops.size=i+((ops.size - (i+1))+1):=by omega
  conv=>lhs; rw [e1,List.range_add,List.range_succ_eq_map]
  simp only [fO,List.map_cons,List.map_map,Nat.add_zero]
  congr 2
  apply List.map_congr_left
  intro x _
  simp; omega
 rw [hsplit]
 have e:=qg ty tb cx.nt ops.toList (ops.toList.take i) [] (ops.toList.drop i) st (by simp)
 have e2:(ops.toList.take i).length=i:=by simp; omega
 simp only [e2,List.length_nil,Nat.zero_add,List.map_id'] at e
 rw [← e] at h
 generalize hq:ku ty tb cx.nt ops.toList (List.range i) st=q at h
 obtain ⟨p,st1⟩:=q
 obtain ⟨hp,hx,hk,h⟩:=h
 refine AZ hty htb (List.range i) st m a w R (by rw [hq]; exact hp) (fun m1 a1 w1 R1=> ?_)
 rw [hq] at R1
 simp only [wpOpsIn,ho]
 rw [if_pos (by simp [Region.wanted,hg])]
 refine kP (fun c e=>by rw [hop] at e; cases e) ?_
 have hxv:a1.eval (.tmp t)= .int .i64 qn:=iP (R1.slots t _ hx).2
 have jw:(execOp a1.eval o).run P w1= .ok (.enter g #[.slice none 0 0,.int .i64 qn]) w1:=by
  simp only [execOp,hop,resolve,Deferred.ofValue,Sem.run_bind,Sem.run_pure,Result.andThen_ok,invoke,Array.empty_append,Act.eval] at hxv ⊢
  simp only [List.map_toArray,List.map_cons,List.map_nil,Array.append_empty]
  have e3:a1.eval (.tmp t)= .int .i64 qn:=hxv
  have e4:a1.eval (.const (.slice none 0 0))= .slice none 0 0:=rfl
  rw [e3,e4]
  exact mX hf hnm hb _
 unfold Oper.wp
 rw [jw,Oper.upon_enter]
 refine (hC w1).mono ?_
 rintro e w2 ⟨v,rfl,hL⟩
 obtain ⟨m2,R2,hr⟩:=R1.atx hk hL
 rw [hd]
 exact h m2 _ w2 (R2.slot (t:=d) (v:= .c (.own kk)) hdn hr)
attribute [go_sem] agI
end
end Go.dG
set_option linter.unusedVariables false
set_option linter.unusedSimpArgs false
namespace Go.dG
variable {α σ ρ τ:Type}
def Df (g:τ→σ):gK τ ρ→gK σ ρ
 | .next t=> .next (g t)
 | .out r=> .out r
def jy (f:Int→τ→α→gK τ ρ) (e:τ→Option ρ):Int→List α→τ→Option ρ
 | _,[],t=>e t
 | i,x::r,t=>
  match f i t x with
  | .next t'=>jy f e (i+1) r t'
  | .out q=>q
theorem lg [Inhabited α] (l:List α) (B:σ→gK σ ρ) (mk:Int→τ→σ) (f:Int→τ→α→gK τ ρ) (e:τ→Option ρ) (hl:l.length<1000000000)
 (hstep:∀ (i:Nat) t,i<l.length→B (mk i t)=Df (mk (i+1)) (f i t (l.getD i default)))
 (hend:∀ t,B (mk l.length t)= .out (e t)) (t:τ):aS B 1000000000 (mk 0 t)=jy f e 0 l t:=by
 have key:∀ (k i fuel:Nat) (t:τ),i+k=l.length→k<fuel→aS B fuel (mk i t)=jy f e i (l.drop i) t:=by
  intro k
  induction k with
  | zero=>
   intro i fuel t hi hf
   obtain ⟨m,rfl⟩:∃ m,fuel=m+1:=⟨fuel - 1,by omega⟩
   have hi:i=l.length:=by omega
   subst hi
   simp [aS,hend,jy]
  | succ k ih=>
   intro i fuel t hi hf
   obtain ⟨m,rfl⟩:∃ m,fuel=m+1:=⟨fuel - 1,by omega⟩
   have hlt:i<l.length:=by omega
   have hd:l.drop i=l.getD i default::l.drop (i+1):=by
    rw [List.drop_eq_getElem_cons hlt]; simp [List.getD_eq_getElem?_getD,hlt]
   rw [hd]
   simp only [aS,hstep i t hlt,jy]
   cases hfx:f i t (l.getD i default) with
   | next t'=>
    have:=ih (i+1) m t' (by omega) (by omega)
    simpa [Df] using this
   | out q=>rfl
 have:=key l.length 0 1000000000 t (by omega) hl
 simpa using this
def dR (n lo hi:Int):Bool:=decide (lo≤n) && decide (n≤hi)
def bQ (b:Bool) (e:Int):Int:=if b then 0 else e
def dh:List Int→Int
 | []=>0
 | x::r=>if x=0 then dh r else x
theorem wS (i:Nat) (h:i<1000000000):IntKind.i64.wrap ((i:Int)+1)=(i:Int)+1:=IntWalk.i64_in _ ⟨by omega,by omega⟩
theorem oz {i n:Nat} (h:i<n):(decide ((i:Int)<(n:Int)))=true:=by simpa using h
theorem lF {i n:Nat} (h:i<n):0≤(i:Int)∧(i:Int)<(n:Int):=⟨by omega,by omega⟩
theorem geN (n:Nat):(decide ((n:Int)<(n:Int)))=false:=by simp
end Go.dG
set_option linter.unusedVariables false
set_option linter.unusedSimpArgs false
namespace Go.dG
def Bo.code:Bo→Code
 | .off=> .skip
 | .ret=> .ret
 | .exit id=> .exit id
def CP:List Nat→List AV→List (Nat×AV)→List (Nat×AV)
 | p::ps,v::vs,sl=>CP ps vs ((p,v)::sl)
 | _,_,sl=>sl
def pU:List Nat→List Value→Array Value→Array Value
 | p::ps,v::vs,t=>pU ps vs (t.setIfInBounds p v)
 | _,_,t=>t
theorem CO:∀ (ps:List Nat) (vs:List Value) (t:Array Value),(ps.zip vs).foldl (fun tmps (p:Nat×Value)=>tmps.setIfInBounds p.1 p.2) t=pU ps vs t
 | [],_,_=>rfl
 | _::_,[],_=>rfl
 | p::ps,v::vs,t=>by simp only [List.zip_cons_cons,List.foldl_cons,pU]; exact CO ps vs _
theorem CJ:∀ (ps:List Nat) (vs:List Value) (t:Array Value),(pU ps vs t).size=t.size
 | [],_,_=>rfl
 | _::_,[],_=>rfl
 | p::ps,v::vs,t=>by simp only [pU]; rw [CJ]; simp
section
variable {P:Program} {ty:iE} {tb:oC} {cx:Cx} {st:St} {m m1 m':Mp} {a:Act} {w w':World} {o:Oper} {out:Out} {ws:List Wr} {ρ:Option Nat}
theorem FX {lb:Nat→Option eX} {nt:Nat}:∀ {ps:List Nat} {vs:List AV} {us:List Value} {sl:List (Nat×AV)} {t:Array Value},t.size=nt→(∀ p∈ps,p<nt)→
 vs.length=us.length→(∀ i,i<vs.length→RA cx m w lb (vs.getD i default) (us.getD i undef))→(∀ s v,lk sl s=some v→s<nt∧RA cx m w lb v (t.getD s undef))→
 ∀ s v,lk (CP ps vs sl) s=some v→s<nt∧RA cx m w lb v ((pU ps us t).getD s undef)
 | [],_,_,_,_,_,_,_,_,h=>by simpa only [CP,pU] using h
 | _::_,[],[],_,_,_,_,_,_,h=>by simpa only [CP,pU] using h
 | _::_,[],_::_,_,_,_,_,h,_,_=>by cases h
 | _::_,_::_,[],_,_,_,_,h,_,_=>by cases h
 | p::ps,x::vs,u::us,sl,t,hn,hp,hl,hv,h=>by
  simp only [CP,pU]
  refine FX (by simp [hn]) (fun q hq=>hp q (List.mem_cons_of_mem _ hq)) (by simpa using hl) (fun i hi=>by simpa using hv (i+1) (by simpa using hi)) (fun s v hs=> ?_)
  simp only [lk] at hs
  split at hs
  ·rename_i e; subst e
   obtain rfl:=Option.some.inj hs
   have hlt:=hp p (List.mem_cons_self ..)
   refine ⟨hlt,?_⟩
   rw [Array.getD_eq_getD_getElem?,Array.getElem?_setIfInBounds_self_of_lt (by rw [hn]; exact hlt)]
   simpa using hv 0 (by simp)
  ·rename_i e
   obtain ⟨h1,h2⟩:=h s v hs
   refine ⟨h1,?_⟩
   simpa [Array.getD_eq_getD_getElem?,Array.getElem?_setIfInBounds,e] using h2
def Gm:AC→Option (Nat×List AV×List AV)
 | .clo g caps=>some (g,[],caps.map Ej)
 | .bnd g l=>some (g,[.agg (l.map .d)],[])
 | _=>none
theorem Xy {cx:Cx} {m:Mp} {w:World} {lb:Nat→Option eX} {x:AC} {v:Value} {g:Nat} {pre suf:List AV} (h:Gm x=some (g,pre,suf)) (hx:eU cx m w lb x v) :
 ∃ b c,v= .func (.func g) b c∧b.size=pre.length∧c.size=suf.length∧(∀ i,i<pre.length→RA cx m w lb (pre.getD i default) (b.getD i undef))∧(∀ i,i<suf.length→RA cx m w lb (suf.getD i default) (c.getD i undef)):=by
 cases x with
 | clo g' caps=>
  obtain ⟨rfl,rfl,rfl⟩:g'=g∧[]=pre∧caps.map Ej=suf:=by simpa [Gm] using h
  obtain ⟨vs,rfl,hvs,hvc⟩:=hx
  refine ⟨#[],vs,rfl,rfl,by simpa using hvs,fun i hi=>absurd hi (by simp),fun i hi=> ?_⟩
  rw [List.length_map] at hi
  obtain ⟨u,hu,hr⟩:=hvc i hi
  have e1:(caps.map Ej).getD i default=Ej (caps.getD i (.ref 0 0)):=by
   rw [List.getD_eq_getElem?_getD,List.getElem?_map,List.getD_eq_getElem?_getD,List.getElem?_eq_getElem hi]; rfl
  have e2:vs.getD i undef=u:=by rw [Array.getD_eq_getD_getElem?,hu]; rfl
  rw [e1,e2]
  cases hq:caps.getD i (.ref 0 0) with
  | ref b off=>rw [hq] at hr; exact hr
  | dK l off=>rw [hq] at hr; exact hr
 | bnd g' l=>
  obtain ⟨rfl,rfl,rfl⟩:g'=g∧[AV.agg (l.map .d)]=pre∧[]=suf:=by simpa [Gm] using h
  obtain ⟨us,rfl,hsz,hc⟩:=hx
  refine ⟨#[.agg us], #[],rfl,rfl,rfl,fun i hi=> ?_,fun i hi=>absurd hi (by simp)⟩
  obtain rfl:i=0:=by simpa using hi
  refine ⟨us,rfl,by simpa using hsz,fun j hj=> ?_⟩
  rw [List.length_map] at hj
  obtain ⟨u,hu,hr⟩:=hc j hj
  refine ⟨u,hu,?_⟩
  have e1:(l.map AC.d).getD j .undef= .d (l.getD j .undef):=by
   rw [List.getD_eq_getElem?_getD,List.getElem?_map,List.getD_eq_getElem?_getD,List.getElem?_eq_getElem hj]; rfl
  rw [e1]; exact hr
 | _=>simp [Gm] at h
def uO (fn:Nat) (tmps:Array Value) (ps:Array Nat) (assign body:Code) (D:Nat) (s:LoopState) (pe:Option Code):Loop:=
 { state:=s,pending:=pe,fn,tmps,params:=ps,assign,body,defers:=D }
theorem XJ (R:Rel cx st m a w) {Ds:List Nat} (hm:Marks cx w a.defers Ds) (hrd:∀ l,ρ=some l→∃ r,(l,Obj.loop r)∈cx.recs) (fn:Nat) (ps:Array Nat) (assign body:Code) :
 ∃ l Dm D w1,(Instr.enterLoop fn a.tmps ps assign body ρ).run P w= .ok (l,Dm.map mark) w1∧w1.heap[l]? =some (.loop (uO fn a.tmps ps assign body D .ready none))∧cx.w0.heap.size≤l∧
  (∀ p∈cx.recs,p.1≠l)∧l∉Dm++Ds∧Rel cx st m a w1∧Marks cx w1 ((Dm++Ds).map mark) (Dm++Ds):=by
 have hrl:∀ p∈cx.recs,p.1<w.heap.size:=fun p hp=>(Array.getElem?_eq_some_iff.1 (R.recs p hp).2.1).1
 have hDl:∀ D∈Ds,D<w.heap.size:=fun D hD=>(Array.getElem?_eq_some_iff.1 (hm.here D hD)).1
 cases ρ with
 | some l0=>
  obtain ⟨r0,hr0⟩:=hrd l0 rfl
  have hrun:=run_enterLoop_inner (P:=P) (R.recs _ hr0).2.1 fn a.tmps ps assign body
  have hsame:∀ (ob:Obj) B,B<w.heap.size→(w.alloc ob).heap[B]? =w.heap[B]? :=fun ob B hB=>by
   show (w.heap.push ob)[B]? =_
   rw [Array.getElem?_push,if_neg (by omega)]
  have R1:Rel cx st m a (w.alloc (.loop (uO fn a.tmps ps assign body r0.defers .ready none))):=R.grow ⟨rfl,rfl,rfl⟩ (by show _≤(w.heap.push _).size; simp) (hsame _)
  refine ⟨w.heap.size,[],r0.defers,_,hrun,World.alloc_heap_new _ _,R.size,fun p hp=>by have:=hrl p hp; omega,fun h=> ?_,R1,?_⟩
  ·have:=hDl _ (by simpa using h); omega
  ·rw [List.nil_append, ← hm.eq]; exact hm.keeps (.grow (hsame _))
 | none=>
  have hrun:=run_enterLoop_outer (P:=P) (w:=w) fn a.tmps ps assign body
  have hsame:∀ B,B<w.heap.size→((w.alloc (.deferred (some []))).alloc (.loop (uO fn a.tmps ps assign body w.heap.size .ready none))).heap[B]? =w.heap[B]? :=fun B hB=>by
   show ((w.heap.push _).push _)[B]? =_
   rw [Array.getElem?_push,if_neg (by simp; omega),Array.getElem?_push,if_neg (by omega)]
  have hD:((w.alloc (.deferred (some []))).alloc (.loop (uO fn a.tmps ps assign body w.heap.size .ready none))).heap[w.heap.size]? =some (.deferred (some [])):=by
   show ((w.heap.push _).push _)[w.heap.size]? =_
   rw [Array.getElem?_push,if_neg (by simp),Array.getElem?_push,if_pos rfl]
  have hl:((w.alloc (.deferred (some []))).alloc (.loop (uO fn a.tmps ps assign body w.heap.size .ready none))).heap[w.heap.size+1]? =some (.loop (uO fn a.tmps ps assign body w.heap.size .ready none)):=by
   show ((w.heap.push _).push _)[w.heap.size+1]? =_
   rw [Array.getElem?_push,if_pos (by simp)]
  have R1:Rel cx st m a ((w.alloc (.deferred (some []))).alloc (.loop (uO fn a.tmps ps assign body w.heap.size .ready none))):=
   R.grow ⟨rfl,rfl,rfl⟩ (by show _≤((w.heap.push _).push _).size; simp only [Array.size_push]; omega) hsame
  have hm1:=hm.keeps (.grow hsame)
  have hRs:=R.size
  refine ⟨w.heap.size+1,[w.heap.size],w.heap.size,_,hrun,hl,by omega,fun p hp=>by have:=hrl p hp; omega,fun h=> ?_,R1,⟨rfl,?_,?_,?_,?_⟩⟩
  ·rcases List.mem_append.1 h with h | h
   ·simp at h
   ·have:=hDl _ h; omega
  ·refine List.nodup_cons.2 ⟨fun h=> ?_,hm.nodup⟩
   have:=hDl _ h; omega
  ·intro D h
   rcases List.mem_cons.1 h with rfl | h
   ·exact R.size
   ·exact hm.lo D h
  ·intro D h
   rcases List.mem_cons.1 h with rfl | h
   ·exact hD
   ·exact hm1.here D h
  ·intro D h p hp
   rcases List.mem_cons.1 h with rfl | h
   ·have:=hrl p hp; omega
   ·exact hm.own D h p hp
def Yw (P:Program) (ty:iE) (tb:oC) (n:Nat) (draw:List Oper→St→Prop) (stop:List K→St→Prop) (Fz:Bo→List K→St→Prop) (k:List K) (fH:List AV) (osl:List (Nat×AV)) (ts:List Nat) (dst:Option Nat)
 (l:Nat) (ps:List Nat) (assign body:Code) (x:Operand) (args:List Operand):Prop×St→Prop
 | (p,st1)=>p∧valOf st1 x= .c (.V4 l)∧
  ∀ afY,Stop P ty tb n draw (U8 fun s=>∀ afX,
   Stop P ty tb n draw (fun j s'=>match j with
    | .off=>stop k ((⟨dF st1.sl ts,s'.bx,s'.lb⟩:St).done dst ⟨True,.c (.d (.bool true)),[]⟩)
    | j=>Fz j k ((⟨dF st1.sl ts,s'.bx,s'.lb⟩:St).done dst ⟨True,.c (.d (.bool false)),[]⟩)) afX (fH++vH (dF st1.sl ts))→afX [.code body] s) afY (fH++vH (dF st1.sl ts))→
   afY [.code assign] ⟨CP ps (valsOf st1 args) osl,st1.bx,st1.lb⟩
def afA (P:Program) (ty:iE) (tb:oC) (n n':Nat) (draw:List Oper→St→Prop) (stop:List K→St→Prop) (Fz:Bo→List K→St→Prop) (fH:List AV) (osl:List (Nat×AV)) (l:Nat) (ps:List Nat) (assign body:Code):Prop:=
 ∀ {id:Nat} {ops:Array Oper} {k:List K} {st:St} (i:Nat) (ts:List Nat) {o:Oper} {x:Operand} {args:Array Operand} {tys:Array Nat} (d:Option Nat),ops[i]? =some o→
  o.op= .call { callee:= .value x,args:=args,argTypes:=tys } →o.guard=none→o.dst=d→Gx n' d→args.size=ps.length→
  Yw P ty tb n draw stop Fz (.ops ops (i+1)::k) fH osl ts d l ps assign body x args.toList (iy ty tb n' (ops.toList.map (·.dst)) (ops.toList.take i) st)→
  stop (.code (.region id ops false)::k) st
theorem Stop.range {n n':Nat} {draw qh:List Oper→St→Prop} {fin':Bo→St→Prop} {stop:List K→St→Prop} {fH:List AV} (S:Stop P ty tb n draw fin' stop fH) {k:List K} {st:St}
 (ts:List Nat) {g:Nat} {ac:AC} {pre suf:List AV} {fn:Func} {c:Code} {x:Operand} {ps:Array Nat} {assign body:Code}
 (hf:P.funcs[g]? =some fn) (hnm:(fn.name == "runtime.NumGoroutine")=false) (hb:fn.body=some c) (hn:fn.ntmps=n') (hres:fn.results= #[]) (uT:∀ cx,cx.nt=n→tV P ty tb cx draw) (aaJ:∀ cx,cx.nt=n'→tV P ty tb cx qh)
 (hps:∀ p∈ps.toList,p<n) (hx:valOf st x= .c ac) (hfun:Gm ac=some (g,pre,suf)) (hlen:pre.length+1+suf.length≤n')
 (h:∀ (l:Nat) (YO:List K→St→Prop) (Fz:Bo→List K→St→Prop),
  Stop P ty tb n' qh (kF fun s=>stop k ⟨dF st.sl ts,s.bx,s.lb⟩) YO (fH++vH (dF st.sl ts))→
  (∀ j,Stop P ty tb n' qh (kF fun s=>stop (.code j.code::k) ⟨dF st.sl ts,s.bx,s.lb⟩) (Fz j) (fH++vH (dF st.sl ts)))→
  afA P ty tb n n' draw YO Fz (fH++vH (dF st.sl ts)) (dF st.sl ts) l ps.toList assign body→
  YO [.code c] ⟨PE 0 (pre++ .c (.V4 l)::suf),st.bx,st.lb⟩) :
 stop (.code (.rangeFunc x ps assign body)::k) st:=by
 obtain ⟨cx,Q,ρ,rfl,hs,hty,htb,hd0,hfin,hrd,rfl⟩:=S.ex
 intro m a w R
 refine wpIn_rangeFunc fun fnO _=> ?_
 obtain ⟨Ds,hm⟩:=R.defers
 obtain ⟨l,Dm,D,w1,hent,hL1,hlo,hlr,hlD,R1,hm1⟩:=XJ (P:=P) R hm hrd fnO ps assign body
 have hxv:=R1.val x
 rw [hx] at hxv
 obtain ⟨bs,vs,hv,hbs,hvs,hbc,hvc⟩:=Xy hfun hxv
 refine ⟨l,Dm.map mark,w1, { target:= .fn (.func g) vs,args:=bs++ #[.func (.yield l) #[] #[]] },w1,g,bs++ #[.func (.yield l) #[] #[]]++vs,w1,hent,?_,fun _ _=>trivial,?_,fun h=>(by cases h),?_⟩
 ·simp only [resolve,hv]
  simp [go_sem,Deferred.ofValue,Act.eval]
 ·simp only [invoke,go_sem]
  exact mX hf hnm (by rw [hb]; rfl) _
 have ea:({ a with defers:=Dm.map mark++a.defers }:Act)= { a with defers:=(Dm++Ds).map mark } :=by rw [hm.eq,List.map_append]
 rw [ea]
 obtain ⟨rec,hrec⟩:∃ rec:LoopState→Option Code→Loop,rec=uO fnO a.tmps ps assign body D:=⟨_,rfl⟩
 rw [← hrec] at hL1
 let Wq:List (AV×Value):=cx.fH++(dF st.sl ts).map fun q=>(q.2,a.tmps.getD q.1 undef)
 let o8:LoopState→Option Code→List (Nat×Obj):=fun s pe=>cx.recs++(Dm++Ds).map (fun D=>(D,Obj.deferred (some [])))++[(l,.loop (rec s pe))]
 let QB:LoopState→Option Code→Cx:=fun s pe=> { cx with nt:=n',fH:=Wq,recs:=o8 s pe }
 have aay:Wq.map (·.1)=fH++vH (dF st.sl ts):=by simp only [Wq,List.map_append,hs,List.map_map,xg]; rfl
 have agD:∀ {s pe} {w2:World} {s' FY} ,(∀ p,p∈o8 s pe→cx.w0.heap.size≤p.1∧w2.heap[p.1]? =some p.2∧ny p.2)→∀ p,p∈o8 s' FY→cx.w0.heap.size≤p.1∧(w2.putObj l (.loop (rec s' FY))).heap[p.1]? =some p.2∧ny p.2:=by
  intro s pe w2 s' FY hr p hp
  have hll:=hr (l,.loop (rec s pe)) (by simp [o8])
  rcases List.mem_append.1 hp with hp' | hp'
  ·obtain ⟨g1,g2,g3⟩:=hr p (List.mem_append.2 (.inl hp'))
   refine ⟨g1,?_,g3⟩
   rw [World.putObj_heap_other ?_]
   ·exact g2
   ·rcases List.mem_append.1 hp' with hp' | hp'
    ·exact hlr p hp'
    ·obtain ⟨E,hE,rfl⟩:=List.mem_map.1 hp'
     exact fun e=>hlD (e▸hE)
  ·obtain rfl:=List.mem_singleton.1 hp'
   exact ⟨hlo,World.putObj_heap_same (Array.getElem?_eq_some_iff.1 hll.2.1).1,⟨fun _ _ _ e=>(by cases e),fun _ _ e=>(by cases e)⟩⟩
 have aaB:∀ {s pe} {w2:World} {s' FY},(∀ p,p∈o8 s pe→cx.w0.heap.size≤p.1∧w2.heap[p.1]? =some p.2∧ny p.2)→jl cx.w0.heap.size w2 (w2.putObj l (.loop (rec s' FY))):=by
  intro s pe w2 s' FY hr
  have hll:=hr (l,.loop (rec s pe)) (by simp [o8])
  exact jl.put _ hll.2.1 hll.2.2 hlo
 let post:Ending→World→Prop:=rangePost (FR ρ) 0 P l (qm P ρ k Q) { a with defers:=(Dm++Ds).map mark }
 refine En.2 (callsIn_wide.1 (callsIn_of_wp_marks (F:=Fence.wide) (n:=0) hf hb trivial ?_ (R:=post)))
 have hend:∀ (s:LoopState) (pe:Option Code) (k':List K),s≠ .busy→(∀ a' w',qm P ρ k' Q .normal a' w'→match pe with | none=>qm P ρ k Q .normal a' w' | some c=>c.wpIn (FR ρ) 0 P (qm P ρ k Q) a' w')→
  VY (QB s pe) (bodyPostM Fence.wide 0 P fn post) (kF fun s=>AR P ρ cx Q k' ⟨dF st.sl ts,s.bx,s.lb⟩):=by
  intro s pe k' hsb hk' s2 m2 a2 w2 R2
  suffices key:AR P ρ cx Q k' ⟨dF st.sl ts,s2.bx,s2.lb⟩→LeavesInM Fence.wide 0 P fn a2.tmps post a2.defers .returning w2 from ⟨key,key,fun _ h=>h.elim⟩
  intro hgo
  obtain ⟨Ds3,hm3⟩:=R2.defers
  obtain ⟨w3,R3,-,-,h4⟩:=oO (P:=P) R2 hm3
  obtain ⟨v,g1,-⟩:=UZ (P:=P) hty R3 (fn:=fn) (by rw [hres]; exact trivial)
  refine h4 ⟨v,g1,?_⟩
  have hll:=R3.recs (l,.loop (rec s pe)) (by simp [QB,o8])
  refine ⟨pe,w3.putObj l (.loop { rec s pe with state:= .exhausted }),?_,?_⟩
  ·have:=run_endLoop (P:=P) hll.2.1 (by rw [hrec]; exact hsb)
   rw [this]; rw [hrec]; rfl
  ·refine hk' _ _ (hgo m2 _ _ ?_)
   have e:({ rec s pe with state:= .exhausted }:Loop)=rec .exhausted pe:=by rw [hrec]; rfl
   rw [e]
   have hall:=agD (s':= .exhausted) (FY:=pe) R3.recs
   refine Rel.sN (cx:=QB s pe) (a':= { a with defers:=(Dm++Ds).map mark }) R3 (aaB R3.recs) (nt:=cx.nt) (fH:=cx.fH) (recs:=cx.recs) (Ds:=Dm++Ds) ⟨rfl,hm1.nodup,hm1.lo,fun E hE=> ?_,hm1.own⟩
    (fun p hp=>hall p (by simp [o8,hp])) R1.nt (fun t v ht=> ?_) (fun q hq=>R3.fH q (List.mem_append.2 (.inl hq)))
   ·exact (hall (E,.deferred (some [])) (by simp only [o8]; exact List.mem_append.2 (.inl (List.mem_append.2 (.inr (List.mem_map.2 ⟨E,hE,rfl⟩)))))).2.1
   ·obtain ⟨k1,k2⟩:=qF ht
    exact ⟨(R1.slots t v k1).1,R3.fH (v,a.tmps.getD t undef) (List.mem_append.2 (.inr (List.mem_map.2 ⟨(t,v),k2,rfl⟩)))⟩
 have hSI:Stop P ty tb n' qh (kF fun s=>AR P ρ cx Q k ⟨dF st.sl ts,s.bx,s.lb⟩) (AR P none (QB .ready none) (bodyPostM Fence.wide 0 P fn post)) (fH++vH (dF st.sl ts)):=
  ⟨QB .ready none,_,none,rfl,aay,hty,htb,aaJ _ rfl,hend .ready none k (by simp) (fun _ _ h=>h),(fun _ h=>by cases h),rfl⟩
 have hSJ:∀ j:Bo,Stop P ty tb n' qh (kF fun s=>AR P ρ cx Q (.code j.code::k) ⟨dF st.sl ts,s.bx,s.lb⟩) (AR P none (QB .done (some j.code)) (bodyPostM Fence.wide 0 P fn post)) (fH++vH (dF st.sl ts)):=
  fun j=>⟨QB .done (some j.code),_,none,rfl,aay,hty,htb,aaJ _ rfl,hend .done (some j.code) (.code j.code::k) (by simp) (fun _ _ h=>h),(fun _ h=>by cases h),rfl⟩
 refine h l _ (fun j=>AR P none (QB .done (some j.code)) (bodyPostM Fence.wide 0 P fn post)) hSI hSJ ?_ m _ w1 ?_
 ·intro id ops kI stI i tsI o xo args tys d ho hop hg hdd hd hsz hY
  subst hdd
  intro m2 a2 w2 R2
  refine wpIn_region ?_
  have hi:i<ops.size:=(Array.getElem?_eq_some_iff.1 ho).1
  have hsplit:List.range ops.size=List.range i++i::fO ops (i+1):=by
   have e1:ops.size=i+((ops.size - (i+1))+1):=by omega
   conv=>lhs; rw [e1,List.range_add,List.range_succ_eq_map]
   simp only [fO,List.map_cons,List.map_map,Nat.add_zero]
   congr 2
   apply List.map_congr_left
   intro x _
   simp; omega
  rw [hsplit]
  have e:=qg ty tb n' ops.toList (ops.toList.take i) [] (ops.toList.drop i) stI (by simp)
  have e2:(ops.toList.take i).length=i:=by simp; omega
  simp only [e2,List.length_nil,Nat.zero_add,List.map_id'] at e
  rw [← e] at hY
  generalize hq:ku ty tb n' ops.toList (List.range i) stI=q at hY
  obtain ⟨p,st1⟩:=q
  obtain ⟨hp,hxo,hA⟩:=hY
  refine AZ (cx:=QB .ready none) hty htb (List.range i) stI m2 a2 w2 R2 (by rw [hq]; exact hp) (fun m3 a3 w3 R3=> ?_)
  rw [hq] at R3
  simp only [wpOpsIn,ho]
  rw [if_pos (by simp [Region.wanted,hg])]
  have aAe:a3.eval xo= .func (.yield l) #[] #[]:=by
   have:=R3.val xo
   rw [hxo] at this; exact this
  have hl3:=R3.recs (l,.loop (rec .ready none)) (by simp [QB,o8])
  have jw:(execOp a3.eval o).run P w3= .ok (.round l fnO (pU ps.toList (args.toList.map a3.eval) a.tmps) assign body) w3:=by
   have hy:=run_yield (P:=P) (args:=args.map a3.eval) hl3.2.1 (by rw [hrec]; simpa [uO] using hsz)
   rw [hrec] at hy
   simp only [execOp,hop,resolve,aAe,Deferred.ofValue,Sem.run_bind,Sem.run_pure,Result.andThen_ok,invoke,Array.empty_append,Array.append_empty]
   rw [hy]
   simp only [uO, ← Array.foldl_toList,Array.toList_zip,Array.toList_map]
   rw [← CO]
  refine ⟨fun _ _=>trivial,?_⟩
  rw [Oper.semAt_eq _ _ _ (fun c e=>by rw [hop] at e; cases e),jw,Oper.uponIn_round]
  refine ⟨(fun e=>by cases e),roundIn_of_wpIn (F:=FR none) trivial ?_⟩
  obtain ⟨Ds3,hm3⟩:=R3.defers
  let YL:List (AV×Value):=Wq++(dF st1.sl tsI).map fun q=>(q.2,a3.tmps.getD q.1 undef)
  let Ob:LoopState→Cx:=fun s=> { cx with nt:=cx.nt,fH:=YL,recs:=o8 s none++Ds3.map fun D=>(D,Obj.deferred (some [])) }
  have agC:YL.map (·.1)=fH++vH (dF st.sl ts)++vH (dF st1.sl tsI):=by simp only [YL,List.map_append,aay,List.map_map,xg]; rfl
  have atl:∀ E∈Ds3,E≠l:=fun E hE e=>hm3.own E hE (l,.loop (rec .ready none)) (by simp [QB,o8]) e.symm
  have agE:∀ {s s':LoopState} {w4:World},(∀ p,p∈(Ob s).recs→cx.w0.heap.size≤p.1∧w4.heap[p.1]? =some p.2∧ny p.2)→∀ (s':LoopState) (FY:Option Code),
   (∀ p,p∈o8 s' FY++Ds3.map (fun D=>(D,Obj.deferred (some [])))→cx.w0.heap.size≤p.1∧(w4.putObj l (.loop (rec s' FY))).heap[p.1]? =some p.2∧ny p.2):=by
   intro s _ w4 hr s' FY p hp
   rcases List.mem_append.1 hp with hp | hp
   ·exact agD (fun p hp=>hr p (List.mem_append.2 (.inl hp))) p hp
   ·obtain ⟨g1,g2,g3⟩:=hr p (List.mem_append.2 (.inr hp))
    obtain ⟨E,hE,rfl⟩:=List.mem_map.1 hp
    exact ⟨g1,by rw [World.putObj_heap_other (atl E hE)]; exact g2,g3⟩
  have back:∀ {s m4 a4 w4},Rel (Ob .busy) s m4 a4 w4→∀ (s':LoopState) (FY:Option Code) (b:Bool),
   Rel (QB s' FY) ((⟨dF st1.sl tsI,s.bx,s.lb⟩:St).done o.dst ⟨True,.c (.d (.bool b)),[]⟩) m4 (a3.put o.dst (.bool b)) (w4.putObj l (.loop (rec s' FY))):=by
   intro s m4 a4 w4 R4 s' FY b
   have hall:=agE (s:= .busy) (s':=s') R4.recs s' FY
   have R5:Rel (QB s' FY) ⟨dF st1.sl tsI,s.bx,s.lb⟩ m4 a3 (w4.putObj l (.loop (rec s' FY))):=by
    refine Rel.sN (cx:=Ob .busy) (a':=a3) R4 (aaB (fun p hp=>R4.recs p (List.mem_append.2 (.inl hp)))) (nt:=n') (fH:=Wq) (recs:=o8 s' FY) (Ds:=Ds3) ⟨hm3.eq,hm3.nodup,hm3.lo,fun E hE=> ?_,fun E hE p hp=> ?_⟩
     (fun p hp=>hall p (List.mem_append.2 (.inl hp))) R3.nt (fun t v ht=> ?_) (fun q hq=>R4.fH q (List.mem_append.2 (.inl hq)))
    ·exact (hall (E,.deferred (some [])) (List.mem_append.2 (.inr (List.mem_map.2 ⟨E,hE,rfl⟩)))).2.1
    ·rcases List.mem_append.1 hp with hp | hp
     ·exact hm3.own E hE p (List.mem_append.2 (.inl hp))
     ·obtain rfl:=List.mem_singleton.1 hp
      exact fun e=>atl E hE e.symm
    ·obtain ⟨k1,k2⟩:=qF ht
     exact ⟨(R3.slots t v k1).1,R4.fH (v,a3.tmps.getD t undef) (List.mem_append.2 (.inr (List.mem_map.2 ⟨(t,v),k2,rfl⟩)))⟩
   exact sJ (cx:=QB s' FY) (st:=⟨dF st1.sl tsI,s.bx,s.lb⟩) (out:=⟨True,.c (.d (.bool b)),[]⟩) R5 hd (v:= .bool b) (RD.bool b)
  refine hA (AR P (some l) (Ob .ready) _) ⟨Ob .ready,_,some l,rfl,agC,hty,htb,uT _ rfl,?_,(fun l' e=>⟨rec .ready none,by obtain rfl:=Option.some.inj e; simp [Ob,o8]⟩),rfl⟩ m3 { tmps:=pU ps.toList (args.toList.map a3.eval) a.tmps,defers:=[] } w3 ?_
  ·intro s4 m4 a4 w4 R4
   refine ⟨fun hB=> ?_,fun h=>h.elim,fun _ h=>h.elim⟩
   have hl4:=R4.recs (l,.loop (rec .ready none)) (by simp [Ob,o8])
   refine ⟨_,run_beginRound hl4.2.1 (by rw [hrec]; rfl),?_⟩
   have e5:({ rec .ready none with state:= .busy }:Loop)=rec .busy none:=by rw [hrec]; rfl
   rw [e5]
   refine hB (AR P (some l) (Ob .busy) _) ⟨Ob .busy,_,some l,rfl,agC,hty,htb,uT _ rfl,?_,(fun l' e=>⟨rec .busy none,by obtain rfl:=Option.some.inj e; simp [Ob,o8]⟩),rfl⟩ m4 a4 _ ?_
   ·intro s6 m6 a6 w6 R6
    have hl6:=R6.recs (l,.loop (rec .busy none)) (by simp [Ob,o8])
    have hrun:∀ jump:Option Code,(Instr.endRound l jump).run P w6= .ok (.bool jump.isNone) (w6.putObj l (.loop (rec (if jump.isNone then .ready else .done) jump))):=fun jump=>by
     have:=run_endRound (P:=P) jump hl6.2.1
     rw [hrec] at this ⊢; exact this
    exact ⟨fun hf=>⟨_,_,hrun none,hf m6 _ _ (back R6 .ready none true)⟩,fun hf=>⟨_,_,hrun (some .ret),hf m6 _ _ (back R6 .done (some .ret) false)⟩,
     fun id hf=>⟨_,_,hrun (some (.exit id)),hf m6 _ _ (back R6 .done (some (.exit id)) false)⟩⟩
   ·exact Rel.sN (cx:=Ob .ready) (a':=a4) R4 (aaB (fun p hp=>R4.recs p (List.mem_append.2 (.inl hp)))) (nt:=cx.nt) (fH:=YL) (recs:=(Ob .busy).recs) (Ds:=(R4.defers.choose))
     ⟨R4.defers.choose_spec.eq,R4.defers.choose_spec.nodup,R4.defers.choose_spec.lo,fun E hE=>by
      rw [World.putObj_heap_other]
      ·exact R4.defers.choose_spec.here E hE
      ·exact fun e=>R4.defers.choose_spec.own E hE (l,.loop (rec .ready none)) (by simp [Ob,o8]) e.symm,fun E hE p hp=>by
      rcases List.mem_append.1 hp with hp | hp
      ·rcases List.mem_append.1 hp with hp | hp
       ·exact R4.defers.choose_spec.own E hE p (List.mem_append.2 (.inl (List.mem_append.2 (.inl hp))))
       ·obtain rfl:=List.mem_singleton.1 hp
        exact R4.defers.choose_spec.own E hE (l,.loop (rec .ready none)) (by simp [Ob,o8])
      ·exact R4.defers.choose_spec.own E hE p (List.mem_append.2 (.inr hp))⟩
     (agE (s:= .ready) (s':= .busy) R4.recs .busy none) R4.nt R4.slots R4.fH
  ·refine Rel.sN (cx:=QB .ready none) (a':= { tmps:=pU ps.toList (args.toList.map a3.eval) a.tmps,defers:=[] }) R3 (.refl _ _) (nt:=cx.nt) (fH:=YL) (recs:=(Ob .ready).recs) (Ds:=[]) yX (KG R3 hm3) ?_ ?_ (fun q hq=> ?_)
   ·show (pU _ _ _).size=_
    rw [CJ]; exact R1.nt
   ·refine FX R1.nt hps (by simp [iZ]) (fun i hi=> ?_) (fun t v ht=> ?_)
    ·simp only [iZ,List.length_map] at hi
     have e6:(valsOf st1 args.toList).getD i default=valOf st1 (args.toList[i]):=by rw [iZ,List.getD_eq_getElem?_getD,List.getElem?_map,List.getElem?_eq_getElem hi]; rfl
     have e7:(args.toList.map a3.eval).getD i undef=a3.eval (args.toList[i]):=by rw [List.getD_eq_getElem?_getD,List.getElem?_map,List.getElem?_eq_getElem hi]; rfl
     rw [e6,e7]; exact R3.val _
    ·obtain ⟨k1,k2⟩:=qF ht
     exact ⟨(R1.slots t v k1).1,R3.fH (v,a.tmps.getD t undef) (List.mem_append.2 (.inr (List.mem_map.2 ⟨(t,v),k2,rfl⟩)))⟩
   ·rcases List.mem_append.1 hq with hq | hq
    ·exact R3.fH q hq
    ·obtain ⟨r,hr,rfl⟩:=List.mem_map.1 hq
     exact (R3.slots r.1 r.2 (sS hr)).2
 ·refine Rel.sN (a':= { tmps:=(bs++ #[Value.func (.yield l) #[] #[]]++vs)++Array.replicate (fn.ntmps - (bs++ #[Value.func (.yield l) #[] #[]]++vs).size) undef,defers:=[] }) R1 (.refl _ _) (nt:=n') (fH:=Wq) (recs:=o8 .ready none) (Ds:=[]) yX (fun p hp=> ?_) ?_ (fun t v ht=> ?_) (fun q hq=> ?_)
  ·rcases List.mem_append.1 hp with hp | hp
   ·rcases List.mem_append.1 hp with hp | hp
    ·exact R1.recs p hp
    ·obtain ⟨E,hE,rfl⟩:=List.mem_map.1 hp
     exact ⟨hm1.lo E hE,hm1.here E hE,⟨fun _ _ _ e=>(by cases e),fun _ _ e=>(by cases e)⟩⟩
   ·obtain rfl:=List.mem_singleton.1 hp
    exact ⟨hlo,hL1,⟨fun _ _ _ e=>(by cases e),fun _ _ e=>(by cases e)⟩⟩
  ·simp [hn,hvs,hbs]; omega
  ·obtain ⟨j,hj,e⟩:=IX ht
   obtain rfl:t=j:=by omega
   have hlt:=(List.getElem?_eq_some_iff.1 hj).1
   simp only [List.length_append,List.length_cons] at hlt
   refine ⟨by omega,?_⟩
   have hsz:t<(bs++ #[Value.func (.yield l) #[] #[]]++vs).size:=by simp [hvs,hbs]; omega
   have hget:((bs++ #[Value.func (.yield l) #[] #[]]++vs)++Array.replicate (fn.ntmps - (bs++ #[Value.func (.yield l) #[] #[]]++vs).size) undef).getD t undef=(bs++ #[Value.func (.yield l) #[] #[]]++vs).getD t undef:=by
    rw [Array.getD_eq_getD_getElem?,Array.getElem?_append_left hsz,Array.getD_eq_getD_getElem?]
   rw [hget]
   by_cases h1:t<pre.length
   ·rw [List.getElem?_append_left h1] at hj
    have e3:(bs++ #[Value.func (.yield l) #[] #[]]++vs).getD t undef=bs.getD t undef:=by
     rw [Array.append_assoc,Array.getD_eq_getD_getElem?,Array.getElem?_append_left (by rw [hbs]; exact h1),Array.getD_eq_getD_getElem?]
    rw [e3]
    have:=hbc t h1
    rw [List.getD_eq_getElem?_getD,hj] at this
    exact this
   ·rw [List.getElem?_append_right (by omega)] at hj
    by_cases h2:t=pre.length
    ·subst h2
     rw [Nat.sub_self] at hj
     obtain rfl:AV.c (.V4 l)=v:=by simpa using hj
     have e3:(bs++ #[Value.func (.yield l) #[] #[]]++vs).getD pre.length undef= .func (.yield l) #[] #[]:=by
      rw [Array.getD_eq_getD_getElem?,Array.getElem?_append_left (by simp [hbs]),Array.getElem?_append_right (by omega)]
      simp [hbs]
     rw [e3]; exact rfl
    ·obtain ⟨j,rfl⟩:∃ j,t=pre.length+1+j:=⟨t - (pre.length+1),by omega⟩
     rw [show pre.length+1+j - pre.length=j+1 by omega,List.getElem?_cons_succ] at hj
     have e3:(bs++ #[Value.func (.yield l) #[] #[]]++vs).getD (pre.length+1+j) undef=vs.getD j undef:=by
      rw [Array.getD_eq_getD_getElem?,Array.getElem?_append_right (by simp [hbs]),Array.getD_eq_getD_getElem?]
      congr 2
      simp [hbs]
     rw [e3]
     have:=hvc j (by omega)
     rw [List.getD_eq_getElem?_getD,hj] at this
     exact this
  ·rcases List.mem_append.1 hq with hq | hq
   ·exact R1.fH q hq
   ·obtain ⟨r,hr,rfl⟩:=List.mem_map.1 hq
    exact (R1.slots r.1 r.2 (sS hr)).2
def Ym:List AC→Option (List D)
 | []=>some []
 | .d x::r=>match Ym r with
  | some l=>some (x::l)
  | none=>none
 | _=>none
theorem VW:∀ {l:List AC} {ds:List D},Ym l=some ds→l=ds.map .d
 | [],ds,h=>by obtain rfl:=Option.some.inj h; rfl
 | x::r,ds,h=>by
  cases x with
  | d y=>
   simp only [Ym] at h
   split at h
   ·rename_i l e
    obtain rfl:=Option.some.inj h
    rw [VW e]; rfl
   ·cases h
  | _=>simp [Ym] at h
def ab1 (stop:List K→St→Prop) (k:List K) (t d g:Nat):Prop×St→Prop
 | (p,st1)=>p∧match lk st1.sl t with
  | some (.u (.agg cs))=>match Ym cs with
   | some ds=>stop k (st1.slot d (.c (.bnd g ds)))
   | none=>False
  | _=>False
theorem Stop.bound {n:Nat} {draw:List Oper→St→Prop} {fin':Bo→St→Prop} {stop:List K→St→Prop} {fH:List AV} (S:Stop P ty tb n draw fin' stop fH) {id:Nat} {ops:Array Oper} {k:List K} {st:St}
 (i t d:Nat) {o:Oper} {g:Nat} (ho:ops[i]? =some o) (hop:o.op= .makeFunc (.func g) #[.tmp t] #[]) (hg:o.guard=none) (hd:o.dst=some d) (hdn:d<n)
 (h:ab1 stop (.ops ops (i+1)::k) t d g (iy ty tb n (ops.toList.map (·.dst)) (ops.toList.take i) st)):stop (.code (.region id ops false)::k) st:=by
 obtain ⟨cx,Q,ρ,rfl,hs,hty,htb,hd0,hfin,hrd,rfl⟩:=S.ex
 intro m a w R
 refine wpIn_region ?_
 have hi:i<ops.size:=(Array.getElem?_eq_some_iff.1 ho).1
 have hsplit:List.range ops.size=List.range i++i::fO ops (i+1):=by
  have e1:ops.size=i+((ops.size - (i+1))+1):=by omega
  conv=>lhs; rw [e1,List.range_add,List.range_succ_eq_map]
  simp only [fO,List.map_cons,List.map_map,Nat.add_zero]
  congr 2
  apply List.map_congr_left
  intro x _
  simp; omega
 rw [hsplit]
 have e:=qg ty tb cx.nt ops.toList (ops.toList.take i) [] (ops.toList.drop i) st (by simp)
 have e2:(ops.toList.take i).length=i:=by simp; omega
 simp only [e2,List.length_nil,Nat.zero_add,List.map_id'] at e
 rw [← e] at h
 generalize hq:ku ty tb cx.nt ops.toList (List.range i) st=q at h
 obtain ⟨p,st1⟩:=q
 obtain ⟨hp,h⟩:=h
 refine AZ hty htb (List.range i) st m a w R (by rw [hq]; exact hp) (fun m1 a1 w1 R1=> ?_)
 rw [hq] at R1
 simp only [wpOpsIn,ho]
 rw [if_pos (by simp [Region.wanted,hg])]
 refine kP (fun c e=>by rw [hop] at e; cases e) ?_
 split at h
 ·rename_i cs hcs
  split at h
  ·rename_i ds hds
   obtain rfl:=VW hds
   obtain ⟨us,hv,hsz,hc⟩:=(R1.slots t _ hcs).2
   have jw:(execOp a1.eval o).run P w1= .ok (.value (.func (.func g) #[.agg us] #[])) w1:=by
    have e3:a1.eval (.tmp t)= .agg us:=hv
    simp only [execOp,hop,List.map_toArray,List.map_cons,List.map_nil,e3]
    simp [Instr.makeFunc,go_sem]
   unfold Oper.wp
   rw [jw,Oper.upon_value,hd]
   refine h m1 _ w1 (R1.slot (t:=d) (v:= .c (.bnd g ds)) hdn ⟨us,rfl,by simpa using hsz,fun i hi=> ?_⟩)
   obtain ⟨u,hu,hr⟩:=hc i (by simpa using hi)
   refine ⟨u,hu,?_⟩
   have e4:(ds.map AC.d).getD i .undef= .d (ds.getD i .undef):=by
    rw [List.getD_eq_getElem?_getD,List.getElem?_map,List.getD_eq_getElem?_getD,List.getElem?_eq_getElem hi]; rfl
   rw [e4] at hr
   exact hr
  ·exact h.elim
 ·exact h.elim
end
theorem CY (x:D) (i o:Nat) (c:List D):(x.setAt i o c).nth i=splice (x.nth i) o c:=by
 show (if i=i then _ else _)=_
 rw [if_pos rfl]
section
variable {α:Type} [Inhabited α] {s:Nat} {f:α→List D} {g:List D→α}
theorem abK {l:List α} {x:D} {hi':Nat} [h:Nonempty (PLift (hi'≤l.length))] (hx:Can s f l x):Can s f (l.take hi') (x.sub 0 hi')=True:=by
 obtain ⟨⟨h⟩⟩:=h
 have:=Bh (lo:=0) (hi':=hi') hx h
 simpa using this
theorem abJ {l:List α} {x:D} {lo hi':Nat} [h:Nonempty (PLift (hi'≤l.length))] (hx:Can s f l x):Can s f ((l.drop lo).take (hi' - lo)) (x.sub lo hi')=True:=by
 obtain ⟨⟨h⟩⟩:=h
 exact Bh hx h
theorem GI {l:List α} {lo hi':Nat} [h:Nonempty (PLift (hi'≤l.length))]:aG g ((ah s f l).sub lo hi')=((aG g (ah s f l)).drop lo).take (hi' - lo):=by
 obtain ⟨⟨h⟩⟩:=h
 apply List.ext_getElem
 ·simp [aG,D.sub,D.len,ah]; omega
 ·intro i h1 h2
  simp [aG,D.sub,D.nth,D.len,ah]
theorem Qz {l:List α} {hi':Nat} [h:Nonempty (PLift (hi'≤l.length))]:aG g ((ah s f l).sub 0 hi')=(aG g (ah s f l)).take hi':=by
 rw [GI]; simp
end
attribute [go_sem] abK abJ CY CP Yw Bo.code Gm ab1 Ym
end Go.dG
set_option linter.unusedVariables false
set_option linter.unusedSimpArgs false
namespace Go.dG
theorem KD {ops:Array Oper} {i:Nat} (hi:i<ops.size):fO ops i=i::fO ops (i+1):=by
 unfold fO
 obtain ⟨q,hq⟩:∃ q,ops.size - i=q+1:=⟨ops.size - i - 1,by omega⟩
 rw [hq,show ops.size - (i+1)=q by omega,List.range_succ_eq_map,List.map_cons,List.map_map,Nat.add_zero]
 congr 1
 apply List.map_congr_left
 intro x _
 simp; omega
theorem OL {ops:Array Oper} {i j:Nat} (h:i≤j) (hj:j≤ops.size):fO ops i=(List.range (j - i)).map (i+ ·)++fO ops j:=by
 unfold fO
 rw [show ops.size - i=(j - i)+(ops.size - j) by omega,List.range_add,List.map_append,List.map_map]
 congr 1
 apply List.map_congr_left
 intro x _
 simp; omega
section
variable {P:Program} {ty:iE} {tb:oC} {st:St}
theorem Stop.ay' {n:Nat} {draw:List Oper→St→Prop} {fin':Bo→St→Prop} {stop:List K→St→Prop} {fH:List AV} (S:Stop P ty tb n draw fin' stop fH) {id:Nat} {ops:Array Oper} {k:List K}
 (h:stop (.ops ops 0::k) st):stop (.code (.region id ops false)::k) st:=by
 obtain ⟨cx,Q,ρ,rfl,hs,hty,htb,hd0,hfin,hrd,rfl⟩:=S.ex
 intro m a w R
 refine wpIn_region ?_
 have h1:wpOpsIn (FR ρ) 0 P ops (qm P ρ k Q) (fO ops 0) a w:=h m a w R
 have e:fO ops 0=List.range ops.size:=by simp [fO]
 rw [e] at h1
 exact h1
def ar9 (stop:List K→St→Prop) (k:List K):Prop×St→Prop
 | (p,st1)=>p∧stop k st1
theorem Stop.ar8 {n:Nat} {draw:List Oper→St→Prop} {fin':Bo→St→Prop} {stop:List K→St→Prop} {fH:List AV} (S:Stop P ty tb n draw fin' stop fH) {ops:Array Oper} {k:List K} (i j:Nat) (hij:i≤j) (hj:j≤ops.size)
 (h:ar9 stop (.ops ops j::k) (iy ty tb n (ops.toList.map (·.dst)) ((ops.toList.drop i).take (j - i)) st)):stop (.ops ops i::k) st:=by
 obtain ⟨cx,Q,ρ,rfl,hs,hty,htb,hd0,hfin,hrd,rfl⟩:=S.ex
 intro m a w R
 show wpOpsIn (FR ρ) 0 P ops _ (fO ops i) a w
 rw [OL hij hj]
 have e:=qg ty tb cx.nt ops.toList ((ops.toList.drop i).take (j - i)) (ops.toList.take i) ((ops.toList.drop i).drop (j - i)) st (by rw [List.append_assoc,List.take_append_drop,List.take_append_drop])
 have e2:(ops.toList.take i).length=i:=by simp; omega
 have e3:((ops.toList.drop i).take (j - i)).length=j - i:=by simp; omega
 simp only [e2,e3] at e
 rw [← e] at h
 exact AZ hty htb _ st m a w R h.1 (fun m1 a1 w1 R1=>h.2 m1 a1 w1 R1)
variable {cx:Cx} {m m1 m':Mp} {a:Act} {w w':World} {o:Oper} {out:Out} {ws:List Wr}
theorem Stop.aAb {n n':Nat} {draw qh:List Oper→St→Prop} {fin':Bo→St→Prop} {stop:List K→St→Prop} {fH:List AV} (S:Stop P ty tb n draw fin' stop fH) {ops:Array Oper} {k:List K}
 (i:Nat) (ts:List Nat) {o:Oper} {g:Nat} (caps:List Cap) {fn:Func} {c:Code} {x:Operand} {args:Array Operand} {tys:Array Nat}
 (hf:P.funcs[g]? =some fn) (hnm:(fn.name == "runtime.NumGoroutine")=false) (hb:fn.body=some c) (hn:fn.ntmps=n') (uT:∀ cx,cx.nt=n'→tV P ty tb cx qh)
 (d:Option Nat) (ho:ops[i]? =some o) (hop:o.op= .call { callee:= .value x,args:=args,argTypes:=tys }) (hg:o.guard=none) (hdd:o.dst=d) (hd:Gx n d) (hlen:args.size+caps.length≤n')
 (h:ai8 P ty tb n' qh stop (.ops ops (i+1)::k) fH ts d g caps fn.results.toList c x args.toList (True,st)) :
 stop (.ops ops i::k) st:=by
 subst hdd
 obtain ⟨cx,Q,ρ,rfl,hs,hty,htb,hd0,hfin,hrd,rfl⟩:=S.ex
 intro m1 a1 w1 R1
 have hi:i<ops.size:=(Array.getElem?_eq_some_iff.1 ho).1
 have hsplit:fO ops i=i::fO ops (i+1):=KD hi
 show wpOpsIn (FR ρ) 0 P ops _ (fO ops i) a1 w1
 rw [hsplit]
 obtain ⟨-,hx,h⟩:=h
 simp only [wpOpsIn,ho]
 rw [if_pos (by simp [Region.wanted,hg])]
 refine kP (fun c e=>by rw [hop] at e; cases e) ?_
 have hxv:=R1.val x
 simp only [hx] at hxv
 obtain ⟨vs,hv,hvs,hvc⟩:=hxv
 have jw:(execOp a1.eval o).run P w1= .ok (.enter g ((args.map a1.eval)++vs)) w1:=by
  simp only [execOp,hop,resolve,hv,Deferred.ofValue,Sem.run_bind,Sem.run_pure,Result.andThen_ok,invoke,Array.empty_append]
  exact mX hf hnm (by rw [hb]; rfl) _
 unfold Oper.wp
 rw [jw,Oper.upon_enter]
 refine callsIn_wide.1 (callsIn_of_wp_marks (F:=Fence.wide) (n:=0) hf hb trivial ?_)
 obtain ⟨Ds1,hm1⟩:=R1.defers
 let VH:Cx:= { cx with nt:=n',fH:=cx.fH++(dF st.sl ts).map fun q=>(q.2,a1.tmps.getD q.1 undef),recs:=cx.recs++Ds1.map fun D=>(D,.deferred (some [])) }
 have R2:Rel VH ⟨PE 0 (valsOf st args.toList++caps.map Ej),st.bx,st.lb⟩ m1 { tmps:=(args.map a1.eval++vs)++Array.replicate (fn.ntmps - (args.map a1.eval++vs).size) undef,defers:=[] } w1:=by
  refine Rel.sN (a':= { tmps:=(args.map a1.eval++vs)++Array.replicate (fn.ntmps - (args.map a1.eval++vs).size) undef,defers:=[] }) R1 (.refl _ _) (Ds:=[]) yX (KG R1 hm1) ?_ (fun t v ht=> ?_) (fun q hq=> ?_)
  ·simp [hn,hvs]; omega
  ·obtain ⟨j,hj,e⟩:=IX ht
   obtain rfl:t=j:=by omega
   have hlt:=(List.getElem?_eq_some_iff.1 hj).1
   simp only [List.length_append,List.length_map,iZ,Array.length_toList] at hlt
   refine ⟨by show t<n'; omega,?_⟩
   have hsz:t<(args.map a1.eval++vs).size:=by simp [hvs]; exact hlt
   have hget:((args.map a1.eval++vs)++Array.replicate (fn.ntmps - (args.map a1.eval++vs).size) undef).getD t undef=(args.map a1.eval++vs).getD t undef:=by
    rw [Array.getD_eq_getD_getElem?,Array.getElem?_append_left hsz,Array.getD_eq_getD_getElem?]
   rw [hget]
   by_cases hta:t<args.size
   ·rw [List.getElem?_append_left (by simpa [iZ] using hta),iZ,List.getElem?_map,Option.map_eq_some_iff] at hj
    obtain ⟨y,hy,rfl⟩:=hj
    have e3:(args.map a1.eval++vs).getD t undef=a1.eval y:=by
     rw [Array.getD_eq_getD_getElem?,Array.getElem?_append_left (by simpa using hta),Array.getElem?_map]
     rw [Array.getElem?_toList] at hy
     simp [hy]
    rw [e3]; exact R1.val y
   ·rw [List.getElem?_append_right (by simp [iZ]; omega),List.getElem?_map,Option.map_eq_some_iff] at hj
    obtain ⟨y,hy,rfl⟩:=hj
    simp only [iZ,List.length_map,Array.length_toList] at hy
    obtain ⟨u,hu,hr⟩:=hvc (t - args.size) (by omega)
    have e3:(args.map a1.eval++vs).getD t undef=u:=by
     rw [Array.getD_eq_getD_getElem?,Array.getElem?_append_right (by simp; omega)]
     simp [hu]
    rw [e3]
    have e4:caps.getD (t - args.size) (.ref 0 0)=y:=by simp [List.getD_eq_getElem?_getD,hy]
    rw [e4] at hr
    cases y with
    | ref b off=>exact hr
    | dK l off=>exact hr
  ·rcases List.mem_append.1 hq with hq | hq
   ·exact R1.fH q hq
   ·obtain ⟨r,hr,rfl⟩:=List.mem_map.1 hq
    exact (R1.slots r.1 r.2 (sS hr)).2
 refine h (AR P none VH (bodyPostM Fence.wide 0 P fn _)) ⟨VH,_,none,rfl,?_,hty,htb,uT VH rfl,?_,(fun _ h=>by cases h),rfl⟩ _ _ _ R2
 ·simp only [VH,List.map_append,hs,List.map_map,xg]; rfl
 ·intro s m2 a2 w2 R3'
  suffices key:PD ty fn.results.toList (AR P ρ cx Q) (.ops ops (i+1)::k) (dF st.sl ts) o.dst s→LeavesInM Fence.wide 0 P fn a2.tmps _ a2.defers .returning w2 from ⟨key,key,fun _ h=>h.elim⟩
  intro att
  obtain ⟨Ds3,hm3⟩:=R3'.defers
  obtain ⟨w3,R3,-,-,h4⟩:=oO (P:=P) R3' hm3
  obtain ⟨f1,f2⟩:=att
  obtain ⟨v,g1,g2⟩:=UZ (P:=P) hty R3 f1
  refine h4 ⟨v,g1,?_⟩
  have R4:Rel cx ⟨dF st.sl ts,s.bx,s.lb⟩ m2 a1 w3:=by
   refine Rel.sN (cx:=VH) (a':=a1) R3 (.refl _ _) (nt:=cx.nt) (fH:=cx.fH) (recs:=cx.recs) (Ds:=Ds1) (Po (cx:=cx) (L:=[]) R3 hm1 (by simp [VH])) (fun p hp=>R3.recs p (List.mem_append.2 (.inl hp))) R1.nt (fun t v ht=> ?_) (fun q hq=>R3.fH q (List.mem_append.2 (.inl hq)))
   obtain ⟨k1,k2⟩:=qF ht
   exact ⟨(R1.slots t v k1).1,R3.fH (v,a1.tmps.getD t undef) (List.mem_append.2 (.inr (List.mem_map.2 ⟨(t,v),k2,rfl⟩)))⟩
  have R5:=sJ (st:=⟨dF st.sl ts,s.bx,s.lb⟩) (out:=⟨True,U0 (eH ty s fn.results.toList).2,[]⟩) R4 hd (v:=v) g2
  exact f2 m2 (a1.put o.dst v) w3 R5
theorem Stop.inl {n n':Nat} {draw qh:List Oper→St→Prop} {fin':Bo→St→Prop} {stop:List K→St→Prop} {fH:List AV} (S:Stop P ty tb n draw fin' stop fH) {id:Nat} {ops:Array Oper} {k:List K}
 (i:Nat) (ts:List Nat) {o:Oper} {g:Nat} (caps:List Cap) {fn:Func} {c:Code} {x:Operand} {args:Array Operand} {tys:Array Nat}
 (hf:P.funcs[g]? =some fn) (hnm:(fn.name == "runtime.NumGoroutine")=false) (hb:fn.body=some c) (hn:fn.ntmps=n') (uT:∀ cx,cx.nt=n'→tV P ty tb cx qh)
 (d:Option Nat) (ho:ops[i]? =some o) (hop:o.op= .call { callee:= .value x,args:=args,argTypes:=tys }) (hg:o.guard=none) (hdd:o.dst=d) (hd:Gx n d) (hlen:args.size+caps.length≤n')
 (h:ai8 P ty tb n' qh stop (.ops ops (i+1)::k) fH ts d g caps fn.results.toList c x args.toList (iy ty tb n (ops.toList.map (·.dst)) (ops.toList.take i) st)) :
 stop (.code (.region id ops false)::k) st:=by
 have hi:i<ops.size:=(Array.getElem?_eq_some_iff.1 ho).1
 refine S.ay' (S.ar8 0 i (Nat.zero_le _) (Nat.le_of_lt hi) ?_)
 rw [List.drop_zero,Nat.sub_zero]
 generalize iy ty tb n (ops.toList.map (·.dst)) (ops.toList.take i) st=q at h
 exact ⟨h.1,S.aAb i ts caps hf hnm hb hn uT d ho hop hg hdd hd hlen ⟨trivial,h.2⟩⟩
def atN (stop:List K→St→Prop) (k:List K) (t d:Nat) (st:St):Prop:=
 match (lk st.sl t).getD default with
 | .u (.c .dD)=>stop k (st.slot d (.c (.VI (.sl 0 0 fun _=>[]))))
 | .u (.c (.d x))=>x.cu=true∧stop k (st.slot d (.c (.VI x)))
 | .u (.c (.own j))=>
  match lk st.lb j with
  | some (.shared x)=>stop k (st.slot d (.c (.VI x)))
  | _=>False
 | _=>False
end
attribute [go_sem] ar9 atN
end Go.dG

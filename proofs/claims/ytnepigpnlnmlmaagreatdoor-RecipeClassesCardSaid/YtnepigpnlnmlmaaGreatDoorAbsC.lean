import Derived.Test.YtnepigpnlnmlmaaGreatDoorAbsB
import Derived.Orders
import Derived.Test.YtnepigpnlnmlmaaGreatDoorAbsA
import Derived.IntWalk
import Derived.Laws.Cover3
set_option linter.unusedVariables false
set_option linter.unusedSimpArgs false
namespace Go.Abs
inductive K where
 | code (c:Code)
 | blk (id:Nat)
 | lp (c:Code)
 | ops (ops:Array Oper) (i:Nat)
def restIx (ops:Array Oper) (i:Nat):List Nat:=(List.range (ops.size - i)).map (i+ ·)
def LoopAt (P:Program) (ρ:Option Nat) (c:Code) (Q:Exit→Act→World→Prop) (a:Act) (w:World):Prop:=
 ∀ (b:Frame) (k:List Item) (cs:List Frame),b.roundOf=ρ→∃ e a' w',Q e a' w'∧ArrivesIn (Machine.fenced P (FR ρ)) P (lone (b.atR a (.code c:: .inLoop c::k)) cs w) b k cs e a' w'
theorem roomFR {ρ:Option Nat} (n:Nat):(FR ρ).room n:=fun d h=>by cases h
section
variable {P:Program} {ρ:Option Nat} {Q:Exit→Act→World→Prop} {a:Act} {w:World} {c:Code}
theorem loopAt_body (h:c.wpIn (FR ρ) 0 P (Exit.then (LoopAt P ρ c Q) Q) a w):LoopAt P ρ c Q a w:=by
 intro b k cs hro
 obtain ⟨e,a₁,w₁,hq,harr⟩:=h b (.inLoop c::k) cs hro trivial (roomFR _)
 cases e with
 | normal=>
  obtain ⟨e₂,a₂,w₂,hq₂,harr₂⟩:=hq b k cs hro
  exact ⟨e₂,a₂,w₂,hq₂,.of_steps (StepsIn.trans harr (.one (fenced_calm (F:=FR ρ) (n:=0) trivial (roomFR _) rfl) stepR_inLoop)) harr₂⟩
 | exit id=>exact ⟨_,a₁,w₁,hq,.pass (x:= .inLoop c) rfl (fun _ _=> .inl (by simp)) harr⟩
 | goto l=>exact ⟨_,a₁,w₁,hq,.pass (x:= .inLoop c) rfl (fun _ _=> .inl (by simp)) harr⟩
 | ret=>exact ⟨_,a₁,w₁,hq,.pass (x:= .inLoop c) rfl (fun _ _=> .inl (by simp)) harr⟩
 | panic ch=>exact ⟨_,a₁,w₁,hq,.pass (x:= .inLoop c) rfl (fun _ _=> .inl (by simp)) harr⟩
 | outgrown=>exact ⟨_,a₁,w₁,hq,.pass (x:= .inLoop c) rfl (fun _ _=> .inl (by simp)) harr⟩
theorem wp_loop_at (h:LoopAt P ρ c Q a w):(Code.loop c).wpIn (FR ρ) 0 P Q a w:=by
 intro b k cs hro hb hr
 obtain ⟨e,a',w',hq,harr⟩:=h b k cs hro
 exact ⟨e,a',w',hq,.of_steps (.one (fenced_calm hb hr rfl) stepR_loop) harr⟩
end
def SatK (P:Program) (ρ:Option Nat):List K→(Exit→Act→World→Prop)→Exit→Act→World→Prop
 | [],Q=>Q
 | .code c::k,Q=>Exit.then (fun a w=>c.wpIn (FR ρ) 0 P (SatK P ρ k Q) a w) (SatK P ρ k Q)
 | .blk id::k,Q=>Exit.inBlock id (SatK P ρ k Q)
 | .lp c::k,Q=>Exit.then (LoopAt P ρ c (SatK P ρ k Q)) (SatK P ρ k Q)
 | .ops ops i::k,Q=>Exit.then (fun a w=>wpOpsIn (FR ρ) 0 P ops (SatK P ρ k Q) (restIx ops i) a w) (SatK P ρ k Q)
def popK (id:Nat):List K→Option (List K)
 | []=>none
 | .blk i::k=>if id=i then some k else popK id k
 | .code _::k=>popK id k
 | .lp _::k=>popK id k
 | .ops _ _::k=>popK id k
theorem satK_exit {P:Program} {ρ:Option Nat} {Q:Exit→Act→World→Prop} {a:Act} {w:World} {id:Nat}:∀ {k k':List K},popK id k=some k'→SatK P ρ k' Q .normal a w→SatK P ρ k Q (.exit id) a w
 | [],_,h,_=>by cases h
 | .blk i::k,k',h,hs=>by
  simp only [popK] at h
  simp only [SatK,Exit.inBlock]
  split at h
  ·rename_i e; obtain rfl:=Option.some.inj h; rw [if_pos e]; exact hs
  ·rename_i e; rw [if_neg e]; exact satK_exit h hs
 | .code c::k,k',h,hs=>by exact satK_exit (k:=k) h hs
 | .lp c::k,k',h,hs=>by exact satK_exit (k:=k) h hs
 | .ops o i::k,k',h,hs=>by exact satK_exit (k:=k) h hs
theorem satK_ret {P:Program} {ρ:Option Nat} {Q:Exit→Act→World→Prop} {a:Act} {w:World}:∀ {k:List K},Q .ret a w→SatK P ρ k Q .ret a w
 | [],h=>h
 | .blk i::k,h=>by exact satK_ret (k:=k) h
 | .code c::k,h=>by exact satK_ret (k:=k) h
 | .lp c::k,h=>by exact satK_ret (k:=k) h
 | .ops o i::k,h=>by exact satK_ret (k:=k) h
def AR (P:Program) (ρ:Option Nat) (cx:Cx) (Q:Exit→Act→World→Prop) (k:List K) (st:St):Prop:=
 ∀ m a w,Rel cx st m a w→SatK P ρ k Q .normal a w
theorem satK_out {P:Program} {ρ:Option Nat} {Q:Exit→Act→World→Prop} {a:Act} {w:World} {id:Nat}:∀ {k:List K},popK id k=none→Q (.exit id) a w→SatK P ρ k Q (.exit id) a w
 | [],_,h=>h
 | .blk i::k,hp,h=>by
  simp only [popK] at hp
  simp only [SatK,Exit.inBlock]
  split at hp
  ·cases hp
  ·rename_i e; rw [if_neg e]; exact satK_out hp h
 | .code c::k,hp,h=>by exact satK_out (k:=k) hp h
 | .lp c::k,hp,h=>by exact satK_out (k:=k) hp h
 | .ops o i::k,hp,h=>by exact satK_out (k:=k) hp h
inductive Jmp where
 | off
 | ret
 | exit (id:Nat)
def onlyEnd (f:St→Prop):Jmp→St→Prop
 | .off,st=>f st
 | .ret,st=>f st
 | .exit _,_=>False
def onlyOff (f:St→Prop):Jmp→St→Prop
 | .off,st=>f st
 | _,_=>False
def hasN:List Nat→Nat→Bool
 | [],_=>false
 | j::r,i=>if j=i then true else hasN r i
def vc (ty:Tys) (tb:Fns) (nt:Nat) (draw:List Oper→St→Prop) (fin:Jmp→St→Prop) (stop:List K→St→Prop) (brk:List Nat):Nat→List K→St→Prop
 | 0,k,st=>stop k st
 | _+1,[],st=>fin .off st
 | n+1,.code .skip::k,st=>vc ty tb nt draw fin stop brk n k st
 | n+1,.code (.label _)::k,st=>vc ty tb nt draw fin stop brk n k st
 | n+1,.code (.seq a b)::k,st=>vc ty tb nt draw fin stop brk n (.code a:: .code b::k) st
 | n+1,.code (.region id ops false)::k,st=>
  if hasN brk id=true then stop (.code (.region id ops false)::k) st else (evSeq ty tb nt (ops.toList.map (·.dst)) ops.toList st).1∧vc ty tb nt draw fin stop brk n k (evSeq ty tb nt (ops.toList.map (·.dst)) ops.toList st).2
 | n+1,.code (.region id ops true)::k,st=>
  if hasN brk id=true then stop (.code (.region id ops true)::k) st else
  (evSeq ty tb nt (ops.toList.map (·.dst)) ops.toList st).1∧draw ops.toList st∧vc ty tb nt draw fin stop brk n k (evSeq ty tb nt (ops.toList.map (·.dst)) ops.toList st).2
 | n+1,.code (.cond c x y)::k,st=>
  match valOf st c with
  | .u (.c (.d (.bool b)))=>(b=true→vc ty tb nt draw fin stop brk n (.code x::k) st)∧(b=false→vc ty tb nt draw fin stop brk n (.code y::k) st)
  | _=>False
 | n+1,.code (.block id c)::k,st=>vc ty tb nt draw fin stop brk n (.code c:: .blk id::k) st
 | _+1,.code (.loop c)::k,st=>stop (.lp c::k) st
 | n+1,.code (.exit id)::k,st=>
  match popK id k with
  | some k'=>vc ty tb nt draw fin stop brk n k' st
  | none=>fin (.exit id) st
 | _+1,.code .ret::_,st=>fin .ret st
 | n+1,.blk _::k,st=>vc ty tb nt draw fin stop brk n k st
 | _+1,.lp c::k,st=>stop (.lp c::k) st
 | n+1,.ops ops i::k,st=>
  (evSeq ty tb nt (ops.toList.map (·.dst)) (ops.toList.drop i) st).1∧vc ty tb nt draw fin stop brk n k (evSeq ty tb nt (ops.toList.map (·.dst)) (ops.toList.drop i) st).2
 | _+1,.code c::k,st=>stop (.code c::k) st
section
variable {P:Program} {ty:Tys} {tb:Fns} {cx:Cx} {Q:Exit→Act→World→Prop} {draw:List Oper→St→Prop} {fin:Jmp→St→Prop} {ρ:Option Nat}
def DrawOk (P:Program) (ty:Tys) (tb:Fns) (cx:Cx) (draw:List Oper→St→Prop):Prop:=
 ∀ (ρ:Option Nat) (id:Nat) (ops:Array Oper) (st:St) (Q:Exit→Act→World→Prop) (m:Mp) (a:Act) (w:World),Rel cx st m a w→(evSeq ty tb cx.nt (ops.toList.map (·.dst)) ops.toList st).1→draw ops.toList st→
  (∀ m' a' w',Rel cx (evSeq ty tb cx.nt (ops.toList.map (·.dst)) ops.toList st).2 m' a' w'→Q .normal a' w')→(Code.region id ops true).wpIn (FR ρ) 0 P Q a w
theorem ops_rest (hty:TyOk P ty) (htb:FnsOk P tb) {st:St} {m:Mp} {a:Act} {w:World} (R:Rel cx st m a w) {ops:Array Oper} {i:Nat} (h1:(evSeq ty tb cx.nt (ops.toList.map (·.dst)) (ops.toList.drop i) st).1)
 (h2:∀ m' a' w',Rel cx (evSeq ty tb cx.nt (ops.toList.map (·.dst)) (ops.toList.drop i) st).2 m' a' w'→Q .normal a' w'):wpOpsIn (FR ρ) 0 P ops Q (restIx ops i) a w:=by
 by_cases hi:i≤ops.size
 ·have e:=evIdx_seq ty tb cx.nt ops.toList (ops.toList.drop i) (ops.toList.take i) st (List.take_append_drop _ _).symm
  have e2:(ops.toList.take i).length=i:=by simp [hi]
  simp only [e2,List.length_drop,Array.length_toList] at e
  exact ops_sound hty htb _ st m a w R (by rw [restIx,e]; exact h1) (by rw [restIx,e]; exact h2)
 ·have e:ops.toList.drop i=[]:=List.drop_eq_nil_of_le (by simp; omega)
  rw [e] at h1 h2
  have e2:restIx ops i=[]:=by simp [restIx]; omega
  rw [e2]
  exact h2 m a w R
theorem ar_loop {c:Code} {k:List K} {st:St} (h:AR P ρ cx Q (.code c:: .lp c::k) st):AR P ρ cx Q (.lp c::k) st:=
 fun m a w R=>loopAt_body (h m a w R)
def FinOk (cx:Cx) (Q:Exit→Act→World→Prop) (fin:Jmp→St→Prop):Prop:=
 ∀ st m a w,Rel cx st m a w→(fin .off st→Q .normal a w)∧(fin .ret st→Q .ret a w)∧∀ id,fin (.exit id) st→Q (.exit id) a w
theorem ar_of_vc (hty:TyOk P ty) (htb:FnsOk P tb) (hdraw:DrawOk P ty tb cx draw) (hfin:FinOk cx Q fin) :
 ∀ (brk:List Nat) (n:Nat) (k:List K) (st:St),vc ty tb cx.nt draw fin (AR P ρ cx Q) brk n k st→AR P ρ cx Q k st:=by
 intro brk n
 induction n with
 | zero=>intro k st h; exact h
 | succ n ih=>
  intro k st h m a w R
  unfold vc at h
  split at h
  ·rename_i he; cases he
  ·exact (hfin _ m a w R).1 h
  ·exact wpIn_skip (ih _ _ (by rename_i he; obtain rfl:=Nat.succ.inj he; exact h) m a w R)
  ·exact wpIn_label (ih _ _ (by rename_i he; obtain rfl:=Nat.succ.inj he; exact h) m a w R)
  ·rename_i he; obtain rfl:=Nat.succ.inj he
   exact wpIn_seq (ih _ _ h m a w R)
  ·rename_i he; obtain rfl:=Nat.succ.inj he
   split at h
   ·exact h m a w R
   ·exact region_sound hty htb R h.1 (fun m' a' w' R'=>ih _ _ h.2 m' a' w' R')
  ·rename_i he; obtain rfl:=Nat.succ.inj he
   split at h
   ·exact h m a w R
   ·exact hdraw _ _ _ _ _ m a w R h.1 h.2.1 (fun m' a' w' R'=>ih _ _ h.2.2 m' a' w' R')
  ·rename_i he; obtain rfl:=Nat.succ.inj he
   split at h
   ·rename_i b hv
    have hx:=R.val ‹Operand›
    rw [hv] at hx
    refine wpIn_cond_split (rd_bool hx) (fun hb=>ih _ _ (h.1 hb) m a w R) (fun hb=>ih _ _ (h.2 hb) m a w R)
   ·exact h.elim
  ·rename_i he; obtain rfl:=Nat.succ.inj he
   exact wpIn_block (ih _ _ h m a w R)
  ·exact wp_loop_at (h m a w R)
  ·rename_i he; obtain rfl:=Nat.succ.inj he
   split at h
   ·rename_i k' hp
    exact wpIn_exit (satK_exit hp (ih _ _ h m a w R))
   ·rename_i hp
    exact wpIn_exit (satK_out hp ((hfin _ m a w R).2.2 _ h))
  ·exact wpIn_ret (satK_ret ((hfin _ m a w R).2.1 h))
  ·rename_i he; obtain rfl:=Nat.succ.inj he
   exact ih _ _ h m a w R
  ·exact h m a w R
  ·rename_i he; obtain rfl:=Nat.succ.inj he
   exact ops_rest hty htb R h.1 (fun m' a' w' R'=>ih _ _ h.2 m' a' w' R')
  ·exact h m a w R
def argAV:Arg→AV
 | .c x=> .c (.d x)
 | .agg l=> .agg (l.map .d)
 | .ptr l=> .c (.sptr l 0)
 | .clo f caps=> .c (.clo f (caps.map fun l=> .sptr l 0))
def argSl:Nat→List Arg→List (Nat×AV)
 | _,[]=>[]
 | i,x::r=>(i,argAV x)::argSl (i+1) r
def St.begin (args:List Arg):St:=⟨argSl 0 args,[],[]⟩
theorem lk_argSl:∀ {args:List Arg} {i t:Nat} {v:AV},lk (argSl i args) t=some v→∃ j x,args[j]? =some x∧t=i+j∧v=argAV x
 | [],_,_,_,h=>by cases h
 | x::r,i,t,v,h=>by
  simp only [argSl,lk] at h
  split at h
  ·rename_i e
   obtain rfl:=Option.some.inj h
   exact ⟨0,x,rfl,by omega,rfl⟩
  ·obtain ⟨j,y,h1,h2,h3⟩:=lk_argSl h
   exact ⟨j+1,y,by simpa using h1,by omega,h3⟩
theorem rargs_get {w : World} {S : Nat → Prop} : ∀ {args : List Arg} {vs : List Value}, RArgs w S args vs → vs.length = args.length ∧ ∀ (j : Nat) (x : Arg), args[j]? = some x → ∃ v : Value, vs[j]? = some v ∧ RArg w S x v
  | [], [], _ => ⟨rfl, fun j x h => by simp at h⟩
  | [], _ :: _, h => h.elim
  | _ :: _, [], h => h.elim
  | y :: r, v :: vs, h => by
    obtain ⟨h1, h2⟩ := rargs_get h.2
    refine ⟨by simp [h1], fun j x hx => ?_⟩
    cases j with
    | zero => obtain rfl : y = x := by simpa using hx
              exact ⟨v, rfl, h.1⟩
    | succ j => simpa using h2 j x (by simpa using hx)
structure Stop (P:Program) (ty:Tys) (tb:Fns) (n:Nat) (draw:List Oper→St→Prop) (fin:Jmp→St→Prop) (stop:List K→St→Prop) (sus:List AV:=[]):Prop where
 ex:∃ (cx:Cx) (Q:Exit→Act→World→Prop) (ρ:Option Nat),cx.nt=n∧cx.sus.map (·.1)=sus∧TyOk P ty∧FnsOk P tb∧DrawOk P ty tb cx draw∧
  FinOk cx Q fin∧(∀ l,ρ=some l→∃ r,(l,Obj.loop r)∈cx.recs)∧stop=AR P ρ cx Q
section
variable {n:Nat} {stop:List K→St→Prop} {sus:List AV}
theorem Stop.lp (S:Stop P ty tb n draw fin stop sus) {c:Code} {k:List K} {st:St} (h:stop (.code c:: .lp c::k) st):stop (.lp c::k) st:=by
 obtain ⟨cx,Q,ρ,-,-,-,-,-,-,-,rfl⟩:=S.ex
 exact ar_loop h
theorem Stop.goB (S:Stop P ty tb n draw fin stop sus) (brk:List Nat) (fuel:Nat) {k:List K} {st:St} (h:vc ty tb n draw fin stop brk fuel k st):stop k st:=by
 obtain ⟨cx,Q,ρ,rfl,-,hty,htb,hd,hf,-,rfl⟩:=S.ex
 exact ar_of_vc hty htb hd hf brk fuel k st h
theorem Stop.go (S:Stop P ty tb n draw fin stop sus) (fuel:Nat) {k:List K} {st:St} (h:vc ty tb n draw fin stop [] fuel k st):stop k st:=S.goB [] fuel h
theorem Stop.weak (S:Stop P ty tb n draw fin stop sus) {k:List K} {st:St} (st':St) (hle:∀ cx m a w,cx.nt=n→cx.sus.map (·.1)=sus→Rel cx st m a w→∃ m',Rel cx st' m' a w) (h:stop k st'):stop k st:=by
 obtain ⟨cx,Q,ρ,hn,hs,-,-,-,-,-,rfl⟩:=S.ex
 intro m a w R
 obtain ⟨m',R'⟩:=hle cx m a w hn hs R
 exact h m' a w R'
end
theorem valid_of_ar {f : Nat} {fn : Func} {c : Code} {sp : FSpec} {n : Nat} (hty : TyOk P ty) (htb : FnsOk P tb) (hf : P.funcs[f]? = some fn) (hb : fn.body = some c) (hn : fn.ntmps = n)
    (hdraw : ∀ cx, cx.nt = n → DrawOk P ty tb cx draw) (fin' : List Arg → St → Prop)
    (hfin' : ∀ args cx st m a w, sp.pre args → Rel cx st m a w → fin' args st → ∃ v, (results fn a.tmps).run P w = .ok v w ∧ Left cx.w0 w cx.S0 sp args v)
    (nrm : List Arg → List Arg) (hnrm : ∀ args w S vs, sp.pre args → RArgs w S args vs → RArgs w S (nrm args) vs)
    (h : ∀ args, sp.pre args → ∀ stop, Stop P ty tb n draw (onlyEnd (fin' args)) stop → stop [.code c] (St.begin (nrm args))) (hlen : ∀ args, sp.pre args → (nrm args).length ≤ n) : Valid P f sp := by
  intro S0 w args0 vs hglob hS0 hargs0 hpre
  have hle := hlen args0 hpre
  have hargs := hnrm args0 w S0 vs.toList hpre hargs0
  generalize hq : nrm args0 = args at hargs hle
  obtain ⟨g1, g2⟩ := rargs_get hargs
  let cx : Cx := ⟨S0, w, hglob, n, [], []⟩
  refine callsIn_wide.1 (callsIn_of_wp_marks (F := Fence.wide) (n := 0) hf hb trivial ?_)
  have hR : Rel cx (St.begin args) ⟨fun _ => none, fun _ => none, fun _ _ => none, fun _ => none⟩ { tmps := vs ++ Array.replicate (fn.ntmps - vs.size) undef, defers := [] } w := by
    refine { defers := ⟨[], rfl, List.nodup_nil, fun _ h => (by cases h), fun _ h => (by cases h), fun _ h => (by cases h)⟩, recs := fun p hp => (by cases hp), nt := ?_, env := .refl _, size := Nat.le_refl _, old := fun _ _ => rfl, s0 := hS0, slots := fun t v ht => ?_, sus := fun p hp => (by cases hp), boxes := fun b cs h => (by cases h), nobox := fun _ _ => rfl,
             ods := fun k x h => (by cases h), noods := fun _ _ => rfl, deeps := ⟨fun k x h => (by cases h), fun k j B h => (by cases h), fun k j B h => (by cases h), fun k j k' j' B h => (by cases h), fun k j k' B h => (by cases h), fun k j b B h => (by cases h)⟩, sets := ⟨fun k x h => (by cases h), fun k B h => (by cases h), fun k k' B h => (by cases h)⟩, ownb := fun _ _ h => (by cases h), boxb := fun _ _ h => (by cases h), injo := fun _ _ _ h => (by cases h), injb := fun _ _ _ h => (by cases h), dis := fun _ _ _ h => (by cases h) }
    · have : vs.size = args.length := by simpa using g1
      simp [hn, this, cx]; omega
    · obtain ⟨j, x, hj, rfl, rfl⟩ := lk_argSl ht
      obtain ⟨v, hv, hr⟩ := g2 j x hj
      have hlt := (List.getElem?_eq_some_iff.1 hj).1
      refine ⟨by show 0 + j < n; omega, ?_⟩
      have hv2 : (vs ++ Array.replicate (fn.ntmps - vs.size) undef).getD (0 + j) undef = v := by
        have hjs : j < vs.size := by have := (List.getElem?_eq_some_iff.1 hv).1; simpa using this
        rw [Nat.zero_add, Array.getD_eq_getD_getElem?, Array.getElem?_append_left hjs]
        simpa using congrArg (fun o => o.getD undef) hv
      show RA cx _ w _ _ (Array.getD _ _ _)
      rw [hv2]
      have hext : Ext w w S0 (Sof cx ⟨fun _ => none, fun _ => none, fun _ _ => none, fun _ => none⟩) := ⟨Nat.le_refl _, fun _ _ _ => rfl, fun B _ h => ⟨.inl h, fun _ h => (by cases h), fun _ h => (by cases h), fun _ _ h => (by cases h)⟩⟩
      cases x with
      | c x => exact RD.ext hext hr
      | agg l =>
        obtain ⟨us, rfl, hsz, hc⟩ := hr
        refine ⟨us, rfl, by simpa using hsz, fun i hi => ?_⟩
        simp only [List.length_map] at hi
        obtain ⟨u, hu, hr⟩ := hc i hi
        refine ⟨u, hu, ?_⟩
        have e : (l.map AC.d).getD i .undef = .d (l.getD i .undef) := by simp [List.getD_eq_getElem?_getD, hi]
        rw [e]; exact RD.ext hext hr
      | ptr l => exact Ptr.ext hext hr
      | clo f caps =>
        obtain ⟨us, rfl, hsz, hc⟩ := hr
        refine ⟨us, rfl, by simpa using hsz, fun i hi => ?_⟩
        simp only [List.length_map] at hi
        obtain ⟨u, hu, hr⟩ := hc i hi
        refine ⟨u, hu, ?_⟩
        have e : (caps.map fun l => Cap.sptr l 0).getD i (.ref 0 0) = .sptr (caps.getD i []) 0 := by simp [List.getD_eq_getElem?_getD, hi]
        rw [e]; exact Ptr.ext hext hr
  have hfin : FinOk cx (bodyPostM Fence.wide 0 P fn fun e w' => ∃ v, e = .returned v ∧ Left w w' S0 sp args0 v) (onlyEnd (fin' args0)) := by
    intro st m a w' R
    have key : fin' args0 st → LeavesInM Fence.wide 0 P fn a.tmps (fun e w' => ∃ v, e = .returned v ∧ Left w w' S0 sp args0 v) a.defers .returning w' := by
      intro hf
      obtain ⟨Ds, hm⟩ := R.defers
      obtain ⟨w2, R2, -, -, h4⟩ := leave_marks (P := P) R hm
      obtain ⟨v, h1, h2⟩ := hfin' args0 cx st m _ w2 hpre R2 hf
      exact h4 ⟨v, h1, v, rfl, h2⟩
    exact ⟨key, key, fun id h => h.elim⟩
  rw [← hq] at hR
  exact h args0 hpre (AR P none cx (bodyPostM Fence.wide 0 P fn fun e w' => ∃ v, e = .returned v ∧ Left w w' S0 sp args0 v)) ⟨cx, _, none, rfl, rfl, hty, htb, hdraw cx rfl, hfin, (fun _ h => by cases h), rfl⟩ _ _ _ hR
end
end Go.Abs
set_option linter.unusedVariables false
set_option linter.unusedSimpArgs false
namespace Go.Abs
inductive CV where
 | slot (v:Option AV) | box (v:Option (List AC)) | lab (v:Option Lab)
def St.get (st:St):Comp→CV
 | .slot t=> .slot (lk st.sl t)
 | .box b=> .box (lk st.bx b)
 | .lab k=> .lab (lk st.lb k)
theorem run_agree {α:Type} (r:Rd α) (s s':St) (h:∀ c∈r.log s,s'.get c=s.get c):r.run s'=r.run s:=by
 induction r with
 | ret a=>rfl
 | slot t k ih=>
  have h0:lk s'.sl t=lk s.sl t:=by have:=h (.slot t) (by simp [Rd.log]); simpa [St.get] using this
  simp only [Rd.run,h0]
  exact ih _ (fun c hc=>h c (by simp [Rd.log,hc]))
 | box b k ih=>
  have h0:lk s'.bx b=lk s.bx b:=by have:=h (.box b) (by simp [Rd.log]); simpa [St.get] using this
  simp only [Rd.run,h0]
  exact ih _ (fun c hc=>h c (by simp [Rd.log,hc]))
 | lab l k ih=>
  have h0:lk s'.lb l=lk s.lb l:=by have:=h (.lab l) (by simp [Rd.log]); simpa [St.get] using this
  simp only [Rd.run,h0]
  exact ih _ (fun c hc=>h c (by simp [Rd.log,hc]))
def Wr.comp:Wr→Comp | .box b _=> .box b | .lab k _=> .lab k
def writes (dst:Option Nat) (o:Out):List Comp:=(match dst with | some t=>[.slot t] | none=>[])++o.wr.map Wr.comp
theorem putAll_get (ws:List Wr):∀ (s s':St) (c:Comp),(c∉ws.map Wr.comp→(putAll s ws).get c=s.get c)∧(c∈ws.map Wr.comp→(putAll s ws).get c=(putAll s' ws).get c):=by
 induction ws with
 | nil=>intro s s' c; exact ⟨fun _=>rfl,fun h=>by simp at h⟩
 | cons x r ih=>
  intro s s' c
  refine ⟨fun h=> ?_,fun h=> ?_⟩
  ·simp only [List.map_cons,List.mem_cons,not_or] at h
   simp only [putAll]
   rw [(ih _ s' c).1 h.2]
   cases x with
   | box b l=>cases c with
    | box b'=>simp only [Wr.put,St.get]; rw [lk_other (by rintro rfl; exact h.1 rfl)]
    | _=>rfl
   | lab k l=>cases c with
    | lab k'=>simp only [Wr.put,St.get]; rw [lk_other (by rintro rfl; exact h.1 rfl)]
    | _=>rfl
  ·simp only [putAll]
   by_cases hr:c∈r.map Wr.comp
   ·exact (ih _ _ c).2 hr
   ·rw [(ih _ s c).1 hr,(ih _ s c).1 hr]
    simp only [List.map_cons,List.mem_cons] at h
    obtain rfl:=h.resolve_right hr
    cases x<;>simp [Wr.put,Wr.comp,St.get,lk_same]
theorem done_get (dst:Option Nat) (o:Out) (s s':St) (c:Comp):(c∉writes dst o→(s.done dst o).get c=s.get c)∧(c∈writes dst o→(s.done dst o).get c=(s'.done dst o).get c):=by
 cases dst with
 | none=>simpa only [writes,List.nil_append,St.done] using putAll_get o.wr s s' c
 | some t=>
  have hp:=putAll_get o.wr s s' c
  have hsl:∀ st:St,((putAll st o.wr).slot t o.dst).get (.slot t)= .slot (some o.dst):=fun st=>by simp [St.slot,St.get,lk_same]
  have hoth:∀ st:St,c≠ .slot t→((putAll st o.wr).slot t o.dst).get c=(putAll st o.wr).get c:=fun st hc=>by
   cases c with
   | slot t'=>simp only [St.slot,St.get]; rw [lk_other (by rintro rfl; exact hc rfl)]
   | _=>rfl
  simp only [writes,List.singleton_append,List.mem_cons,not_or,St.done]
  refine ⟨fun h=>by rw [hoth s h.1,hp.1 h.2],fun h=> ?_⟩
  by_cases hc:c= .slot t
  ·subst hc; rw [hsl,hsl]
  ·rw [hoth s hc,hoth s' hc]; exact hp.2 (h.resolve_left hc)
section
variable (ty:Tys) (tb:Fns) (nt:Nat) (ops:List Oper) (st:St)
def refSt:Nat→St
 | 0=>st
 | i+1=>match ops[i]? with
  | some o=>(stepIdx ty tb nt (ops.map (·.dst)) o (refSt i)).2
  | none=>refSt i
def readsAt (i:Nat):List Comp:=match ops[i]? with
 | some o=>(evGuarded ty tb (ops.map (·.dst)) o).log (refSt ty tb nt ops st i)
 | none=>[]
def writesAt (i:Nat):List Comp:=match ops[i]? with
 | some o=>writes o.dst ((evGuarded ty tb (ops.map (·.dst)) o).run (refSt ty tb nt ops st i))
 | none=>[]
def Last (p:Nat→Prop) (s:St):Prop:=∀ c,
 (∃ j,p j∧c∈writesAt ty tb nt ops st j∧(∀ j',p j'→c∈writesAt ty tb nt ops st j'→j'≤j)∧s.get c=(refSt ty tb nt ops st (j+1)).get c)∨
 ((∀ j,p j→c∉writesAt ty tb nt ops st j)∧s.get c=st.get c)
variable {ty tb nt ops st}
theorem Last.agree {p q:Nat→Prop} {s s':St} (h:Last ty tb nt ops st p s) (h':Last ty tb nt ops st q s') {c:Comp} (hc:∀ j,c∈writesAt ty tb nt ops st j→(p j↔q j)):s.get c=s'.get c:=by
 rcases h c with ⟨j,h1,h2,h3,h4⟩ | ⟨h1,h2⟩<;>rcases h' c with ⟨k,g1,g2,g3,g4⟩ | ⟨g1,g2⟩
 ·have e1:=g3 j ((hc j h2).1 h1) h2
  have e2:=h3 k ((hc k g2).2 g1) g2
  obtain rfl:j=k:=by omega
  rw [h4,g4]
 ·exact absurd h2 (g1 j ((hc j h2).1 h1))
 ·exact absurd g2 (h1 k ((hc k g2).2 g1))
 ·rw [h2,g2]
theorem refSt_succ_none {i:Nat} (h:ops[i]? =none):refSt ty tb nt ops st (i+1)=refSt ty tb nt ops st i:=by simp [refSt,h]
theorem last_ref:∀ i,Last ty tb nt ops st (· <i) (refSt ty tb nt ops st i)
 | 0=>fun c=> .inr ⟨fun j h=>absurd h (by omega),rfl⟩
 | i+1=>fun c=>by
  cases ho:ops[i]? with
  | none=>
   have hw:writesAt ty tb nt ops st i=[]:=by simp [writesAt,ho]
   rcases last_ref i c with ⟨j,h1,h2,h3,h4⟩ | ⟨h1,h2⟩
   ·refine .inl ⟨j,by omega,h2,fun j' hj' hw'=> ?_,by rw [refSt_succ_none ho]; exact h4⟩
    by_cases e:j'=i
    ·subst e; rw [hw] at hw'; simp at hw'
    ·exact h3 j' (by omega) hw'
   ·refine .inr ⟨fun j hj hw'=> ?_,by rw [refSt_succ_none ho]; exact h2⟩
    by_cases e:j=i
    ·subst e; rw [hw] at hw'; simp at hw'
    ·exact h1 j (by omega) hw'
  | some o=>
   have hs:refSt ty tb nt ops st (i+1)=(refSt ty tb nt ops st i).done o.dst ((evGuarded ty tb (ops.map (·.dst)) o).run (refSt ty tb nt ops st i)):=by simp [refSt,ho,stepIdx]
   by_cases hc:c∈writesAt ty tb nt ops st i
   ·exact .inl ⟨i,by omega,hc,fun j' hj' _=>by omega,rfl⟩
   ·have hsame:(refSt ty tb nt ops st (i+1)).get c=(refSt ty tb nt ops st i).get c:=by
     rw [hs]; exact (done_get _ _ _ (refSt ty tb nt ops st i) c).1 (by simpa [writesAt,ho] using hc)
    rcases last_ref i c with ⟨j,h1,h2,h3,h4⟩ | ⟨h1,h2⟩
    ·refine .inl ⟨j,by omega,h2,fun j' hj' hw'=> ?_,by rw [hsame]; exact h4⟩
     by_cases e:j'=i
     ·subst e; exact absurd hw' hc
     ·exact h3 j' (by omega) hw'
    ·refine .inr ⟨fun j hj hw'=> ?_,by rw [hsame]; exact h2⟩
     by_cases e:j=i
     ·subst e; exact hc hw'
     ·exact h1 j (by omega) hw'
inductive Pre (ops:List Oper):Nat→Nat→Prop
 | edge {i j:Nat} {o:Oper} {e:Edge} (ho:ops[j]? =some o) (he:e∈o.after) (hb:Region.binds .any e=true) (hi:e.on=i):Pre ops i j
 | step {i j k:Nat} (h1:Pre ops i j) (h2:Pre ops j k):Pre ops i k
def Free (ty:Tys) (tb:Fns) (nt:Nat) (ops:List Oper) (st:St):Prop:=∀ i j c,i<j→
 (c∈writesAt ty tb nt ops st i∧(c∈readsAt ty tb nt ops st j∨c∈writesAt ty tb nt ops st j))∨(c∈readsAt ty tb nt ops st i∧c∈writesAt ty tb nt ops st j)→Pre ops i j
inductive Ord (ops:List Oper):List Nat→List Nat→Prop
 | nil (p):Ord ops p []
 | cons {p q:List Nat} {i:Nat} {o:Oper} (ho:ops[i]? =some o) (hi:i∉p) (he:∀ e∈o.after,Region.binds .any e=true→e.on∈p) (h:Ord ops (p++[i]) q):Ord ops p (i::q)
theorem ord_run (hfree:Free ty tb nt ops st) (hobl:∀ i o,ops[i]? =some o→(stepIdx ty tb nt (ops.map (·.dst)) o (refSt ty tb nt ops st i)).1) {p q:List Nat} (h:Ord ops p q) :
 ∀ (s:St),(∀ i j,j∈p→Pre ops i j→i∈p)→Last ty tb nt ops st (· ∈p) s→(evIdx ty tb nt ops q s).1∧Last ty tb nt ops st (· ∈p++q) (evIdx ty tb nt ops q s).2:=by
 induction h with
 | nil p=>intro s _ hl; exact ⟨trivial,by simpa [evIdx] using hl⟩
 | @cons p q i o ho hi he h ih=>
  intro s hcl hl
  have hpre:∀ k,Pre ops k i→k∈p:=by
   intro k hk
   have:∀ {k i'},Pre ops k i'→i'=i→k∈p:=by
    intro k i' hk
    induction hk with
    | edge ho' he' hb' hi'=>intro e; subst e; rw [ho] at ho'; obtain rfl:=Option.some.inj ho'; subst hi'; exact he _ he' hb'
    | step h1 h2 ih1 ih2=>intro e; exact hcl _ _ (ih2 e) h1
   exact this hk rfl
  have hcl':∀ k j,j∈p++[i]→Pre ops k j→k∈p++[i]:=by
   intro k j hj hk
   rcases List.mem_append.1 hj with hj | hj
   ·exact List.mem_append.2 (.inl (hcl k j hj hk))
   ·obtain rfl:j=i:=by simpa using hj
    exact List.mem_append.2 (.inl (hpre k hk))
  have hread:∀ c∈readsAt ty tb nt ops st i,s.get c=(refSt ty tb nt ops st i).get c:=by
   intro c hc
   refine hl.agree (last_ref i) (fun j hw=> ?_)
   rcases Nat.lt_trichotomy j i with hlt | rfl | hgt
   ·exact ⟨fun _=>hlt,fun _=>hpre j (hfree j i c hlt (.inl ⟨hw,.inl hc⟩))⟩
   ·exact ⟨fun h=>absurd h hi,fun h=>absurd h (by omega)⟩
   ·exact ⟨fun h=>absurd (hcl i j h (hfree i j c hgt (.inr ⟨hc,hw⟩))) hi,fun h=>absurd h (by omega)⟩
  have hrun:(evGuarded ty tb (ops.map (·.dst)) o).run s=(evGuarded ty tb (ops.map (·.dst)) o).run (refSt ty tb nt ops st i):=
   run_agree _ _ _ (fun c hc=>hread c (by simpa [readsAt,ho] using hc))
  have hW:writesAt ty tb nt ops st i=writes o.dst ((evGuarded ty tb (ops.map (·.dst)) o).run (refSt ty tb nt ops st i)):=by simp [writesAt,ho]
  have hstep:stepIdx ty tb nt (ops.map (·.dst)) o s=((stepIdx ty tb nt (ops.map (·.dst)) o (refSt ty tb nt ops st i)).1,s.done o.dst ((evGuarded ty tb (ops.map (·.dst)) o).run (refSt ty tb nt ops st i))):=by
   simp [stepIdx,hrun]
  have hl':Last ty tb nt ops st (· ∈p++[i]) (stepIdx ty tb nt (ops.map (·.dst)) o s).2:=by
   intro c
   rw [hstep]
   by_cases hc:c∈writesAt ty tb nt ops st i
   ·refine .inl ⟨i,by simp,hc,fun j hj hw=> ?_,?_⟩
    ·rcases List.mem_append.1 hj with hj | hj
     ·rcases Nat.lt_or_ge i j with hlt | hge
      ·exact absurd (hcl i j hj (hfree i j c hlt (.inl ⟨hc,.inr hw⟩))) hi
      ·exact hge
     ·have:j=i:=by simpa using hj
      omega
    ·have hs:refSt ty tb nt ops st (i+1)=(refSt ty tb nt ops st i).done o.dst ((evGuarded ty tb (ops.map (·.dst)) o).run (refSt ty tb nt ops st i)):=by simp [refSt,ho,stepIdx]
     rw [hs]
     exact (done_get _ _ s (refSt ty tb nt ops st i) c).2 (by rw [← hW]; exact hc)
   ·have hsame:(s.done o.dst ((evGuarded ty tb (ops.map (·.dst)) o).run (refSt ty tb nt ops st i))).get c=s.get c:=(done_get _ _ s s c).1 (by rw [← hW]; exact hc)
    rcases hl c with ⟨j,h1,h2,h3,h4⟩ | ⟨h1,h2⟩
    ·refine .inl ⟨j,List.mem_append.2 (.inl h1),h2,fun j' hj' hw'=> ?_,by rw [hsame]; exact h4⟩
     rcases List.mem_append.1 hj' with hj' | hj'
     ·exact h3 j' hj' hw'
     ·obtain rfl:j'=i:=by simpa using hj'
      exact absurd hw' hc
    ·refine .inr ⟨fun j hj hw'=> ?_,by rw [hsame]; exact h2⟩
     rcases List.mem_append.1 hj with hj | hj
     ·exact h1 j hj hw'
     ·obtain rfl:j=i:=by simpa using hj
      exact hc hw'
  obtain ⟨g1,g2⟩:=ih _ hcl' hl'
  simp only [evIdx,ho]
  refine ⟨⟨by rw [hstep]; exact hobl i o ho,g1⟩,by simpa using g2⟩
end
end Go.Abs
set_option linter.unusedVariables false
set_option linter.unusedSimpArgs false
namespace Go.Abs
theorem nodup_le : ∀ (n : Nat) (l : List Nat), l.Nodup → (∀ x ∈ l, x < n) → l.length ≤ n
  | 0, [], _, _ => Nat.le_refl _
  | 0, x :: _, _, h => absurd (h x (by simp)) (by omega)
  | n + 1, l, hn, h => by
    by_cases hm : n ∈ l
    · have h1 := nodup_le n (l.erase n) (hn.erase n) (fun x hx => by
        rw [hn.mem_erase_iff] at hx
        have := h x hx.2
        omega)
      have := List.length_erase_of_mem hm
      omega
    · have := nodup_le n l hn (fun x hx => by
        have := h x hx
        rcases Nat.lt_or_ge x n with h' | h'
        · exact h'
        · exact absurd (by have : x = n := by omega
                           exact this ▸ hx) hm)
      omega
def okOrd (md:Region.Mode) (ops:List Oper):List Nat→List Nat→Bool
 | p,[]=>(List.range ops.length).all fun i=>p.contains i
 | p,i::r=>
  match ops[i]? with
  | some o=>(o.after.toList.all fun e=> !Region.binds md e || p.contains e.on) && okOrd md ops (p++[i]) r
  | none=>false
def topoPick (md:Region.Mode) (ops:List Oper) (p:List Nat):List Nat→Option Nat
 | []=>none
 | i::r=>
  match ops[i]? with
  | some o=>if (o.after.toList.all fun e=> !Region.binds md e || p.contains e.on)=true then some i else topoPick md ops p r
  | none=>topoPick md ops p r
def topo (md:Region.Mode) (ops:List Oper):Nat→List Nat→List Nat→List Nat
 | 0,p,_=>p
 | n+1,p,r=>
  match topoPick md ops p r with
  | some i=>topo md ops n (p++[i]) (r.filter fun j=> !(j == i))
  | none=>p
def Goes (md:Region.Mode) (ops:List Oper):Prop:=∃ L,okOrd md ops [] L=true
section
variable {ops:Array Oper}
theorem goes_all {md:Region.Mode} {ops:List Oper} {p:List Nat} (hstuck:∀ i o,ops[i]? =some o→i∉p→∃ e∈o.after,Region.binds md e=true∧e.on∉p) :
 ∀ (L q:List Nat),okOrd md ops q L=true→(∀ y∈q,y∈p)→∀ i,i<ops.length→i∈p
 | [],q,h,hq,i,hi=>by
  simp only [okOrd,List.all_eq_true,List.mem_range] at h
  exact hq i (by simpa using h i hi)
 | x::r,q,h,hq,i,hi=>by
  simp only [okOrd] at h
  split at h
  ·rename_i o ho
   simp only [Bool.and_eq_true] at h
   refine goes_all hstuck r (q++[x]) h.2 (fun y hy=> ?_) i hi
   rcases List.mem_append.1 hy with hy | hy
   ·exact hq y hy
   ·obtain rfl:y=x:=by simpa using hy
    refine Classical.byContradiction fun hm=> ?_
    obtain ⟨e,he,hb,hn⟩:=hstuck y o ho hm
    have:=List.all_eq_true.1 h.1 e (Array.mem_toList_iff.2 he)
    simp only [hb,Bool.not_true,Bool.false_or,List.contains_iff_mem] at this
    exact hn (hq _ this)
  ·cases h
theorem any_binds {md:Region.Mode} {e:Edge} (h:Region.binds .any e=true):Region.binds md e=true:=by
 unfold Region.binds at*
 split at h<;>first | (cases md<;>simp_all; done) | rfl
theorem go_ord {md:Region.Mode} (h:Goes md ops.toList):∀ (fuel t:Nat) (listed:Array Bool) (p:List Nat),listed.size=ops.size→(∀ j,j<ops.size→(listed.getD j true=true↔j∈p))→p.Nodup→(∀ j∈p,j<ops.size)→p.length+fuel=ops.size→
 Ord ops.toList p (Region.linearise.go md ops fuel t listed [])∧∀ i,i<ops.size→i∈p++Region.linearise.go md ops fuel t listed []
 | 0,t,listed,p,hsz,hl,hn,hb,hf=>by
  refine ⟨.nil _,fun i hi=> ?_⟩
  simp only [Region.linearise.go,List.reverse_nil,List.append_nil]
  by_cases hm:i∈p
  ·exact hm
  ·have:=nodup_le ops.size (i::p) (List.nodup_cons.2 ⟨hm,hn⟩) (fun x hx=>by
    rcases List.mem_cons.1 hx with rfl | hx
    ·exact hi
    ·exact hb x hx)
   simp only [List.length_cons] at this
   omega
 | fuel+1,t,listed,p,hsz,hl,hn,hb,hf=>by
  simp only [Region.linearise.go]
  generalize hrs:((List.range ops.size).filter fun i=> !listed.getD i true && ((ops[i]?).map (·.after.all fun e=> !Region.binds md e || listed.getD e.on false)).getD false)=rs
  have hlis:∀ j,listed.getD j false=true↔j∈p:=by
   intro j
   by_cases hj:j<ops.size
   ·rw [← hl j hj]
    simp only [Array.getD_eq_getD_getElem?]
    rw [Array.getElem?_eq_getElem (by omega)]
    simp
   ·have:listed[j]? =none:=Array.getElem?_eq_none (by omega)
    simp only [Array.getD_eq_getD_getElem?,this]
    exact ⟨fun h=>absurd h (by simp),fun h=>absurd (hb j h) hj⟩
  have hready:∀ i,i∈rs↔(i<ops.size∧i∉p∧∃ o,ops[i]? =some o∧∀ e∈o.after,Region.binds md e=true→e.on∈p):=by
   intro i
   rw [← hrs,List.mem_filter,List.mem_range]
   refine and_congr_right fun hi=> ?_
   have ho:ops[i]? =some ops[i]:=Array.getElem?_eq_getElem hi
   simp only [Bool.and_eq_true,Bool.not_eq_true',ho,Option.map_some,Option.getD_some]
   have e1:listed.getD i true=false↔i∉p:=by rw [← hl i hi]; simp
   rw [e1]
   refine and_congr_right fun _=> ?_
   have key:∀ e∈ops[i].after,((!Region.binds md e || listed.getD e.on false)=true↔(Region.binds md e=true→e.on∈p)):=by
    intro e _
    rw [Bool.or_eq_true,hlis]
    cases Region.binds md e<;>simp
   rw [Array.all_eq_true']
   exact ⟨fun hx=>⟨_,rfl,fun e he=>(key e he).1 (hx e he)⟩,fun ⟨o,hoo,hx⟩ e he=>by
    obtain rfl:=Option.some.inj hoo
    exact (key e he).2 (hx e he)⟩
  cases hr:rs[t % rs.length]? with
  | none=>
   have hnil:rs=[]:=by
    cases rs with
    | nil=>rfl
    | cons x xs=>
     have hlt:t % (x::xs).length<(x::xs).length:=Nat.mod_lt _ (by simp)
     have:=List.getElem?_eq_none_iff.1 hr
     omega
   refine ⟨.nil _,fun i hi=> ?_⟩
   simp only [List.reverse_nil,List.append_nil]
   obtain ⟨L,hL⟩:=h
   refine goes_all (md:=md) (p:=p) (fun j o hj hm=> ?_) L [] hL (fun y hy=>by cases hy) i (by simpa using hi)
   refine Classical.byContradiction fun hno=> ?_
   have hjs:j<ops.size:=by
    have:=(List.getElem?_eq_some_iff.1 hj).1
    simpa using this
   have hin:j∈rs:=(hready j).2 ⟨hjs,hm,o,by rw [← Array.getElem?_toList]; exact hj,fun e he hbe=>Classical.byContradiction fun hne=>hno ⟨e,he,hbe,hne⟩⟩
   rw [hnil] at hin
   cases hin
  | some i=>
   simp only []
   rw [linearise_go_acc,List.reverse_singleton,List.singleton_append]
   obtain ⟨hi,hm,o,ho,he⟩:=(hready i).1 (List.mem_of_getElem? hr)
   obtain ⟨g1,g2⟩:=go_ord h fuel (t / rs.length) (listed.setIfInBounds i true) (p++[i]) (by simpa using hsz) (fun j hj=>by
    simp only [Array.getD_eq_getD_getElem?,Array.getElem?_setIfInBounds]
    split
    ·rename_i e; subst e; rw [if_pos (by omega)]; simp
    ·rename_i e
     have:=hl j hj
     rw [Array.getD_eq_getD_getElem?] at this
     rw [this]; simp [Ne.symm e])
    (by rw [List.nodup_append]; exact ⟨hn,by simp,fun a ha b hb'=>by
     have:b=i:=by simpa using hb'
     subst this; rintro rfl; exact hm ha⟩)
    (fun j hj=>by
     rcases List.mem_append.1 hj with hj | hj
     ·exact hb j hj
     ·have:j=i:=by simpa using hj
      omega) (by simp; omega)
   exact ⟨.cons (by rw [Array.getElem?_toList]; exact ho) hm (fun e he' hbe=>he e he' (any_binds hbe)) g1,fun j hj=>by simpa using g2 j hj⟩
def ordChk (ops:List Oper):Bool:=
 okOrd .any ops [] (List.range ops.length) && (!(ops.any fun x=>x.after.toList.any fun e=> !Region.binds .any e) || (okOrd .text ops [] (topo .text ops ops.length [] (List.range ops.length)) && okOrd .gc ops [] (topo .gc ops ops.length [] (List.range ops.length))))
theorem schedule_ord (h:ordChk ops.toList=true) (mixed:Bool) (t:Nat):Ord ops.toList [] (Region.schedule mixed ops t)∧∀ i,i<ops.size→i∈Region.schedule mixed ops t:=by
 simp only [ordChk,Bool.and_eq_true] at h
 obtain ⟨h1,h2⟩:=h
 have gen:∀ (md:Region.Mode) (t:Nat),Goes md ops.toList→Ord ops.toList [] (Region.linearise md ops t)∧∀ i,i<ops.size→i∈Region.linearise md ops t:=by
  intro md t hg
  obtain ⟨g1,g2⟩:=go_ord hg ops.size t (Array.replicate ops.size false) [] (by simp) (fun j hj=>by simp [Array.getD_eq_getD_getElem?,hj]) (by simp) (by simp) (by simp)
  refine ⟨g1,fun i hi=> ?_⟩
  have:=g2 i hi
  rwa [List.nil_append] at this
 unfold Region.schedule
 split
 ·exact gen .any t ⟨_,h1⟩
 ·rename_i hne
  have hd:Region.departs ops=true:=by
   cases hd:Region.departs ops with
   | true=>rfl
   | false=>rw [hd] at hne; simp at hne
  have hd2:(ops.toList.any fun x=>x.after.toList.any fun e=> !Region.binds .any e)=true:=by
   simp only [Region.departs] at hd
   simpa using hd
  rw [hd2] at h2
  simp only [Bool.not_true,Bool.false_or,Bool.and_eq_true] at h2
  split
  ·exact gen .text _ ⟨_,h2.1⟩
  ·exact gen .gc _ ⟨_,h2.2⟩
end
section
variable {ty:Tys} {tb:Fns} {nt:Nat} {ops:List Oper} {st:St}
theorem evSeq_ref:∀ (r p:List Oper),ops=p++r→(evSeq ty tb nt (ops.map (·.dst)) r (refSt ty tb nt ops st p.length)).2=refSt ty tb nt ops st ops.length∧
 ((evSeq ty tb nt (ops.map (·.dst)) r (refSt ty tb nt ops st p.length)).1→∀ i o,p.length≤i→ops[i]? =some o→(stepIdx ty tb nt (ops.map (·.dst)) o (refSt ty tb nt ops st i)).1)
 | [],p,h=>by
  have hl:ops.length=p.length:=by rw [h]; simp
  refine ⟨by simp only [evSeq,hl],fun _ i o hi ho=> ?_⟩
  have:=(List.getElem?_eq_some_iff.1 ho).1
  omega
 | o::r,p,h=>by
  have ho:ops[p.length]? =some o:=by rw [h,List.getElem?_append_right (Nat.le_refl _)]; simp
  have hs:refSt ty tb nt ops st ((p++[o]).length)=(stepIdx ty tb nt (ops.map (·.dst)) o (refSt ty tb nt ops st p.length)).2:=by simp [refSt,ho]
  obtain ⟨g1,g2⟩:=evSeq_ref r (p++[o]) (by rw [h]; simp)
  rw [hs] at g1 g2
  refine ⟨by simp only [evSeq]; exact g1,fun hx i o' hi ho'=> ?_⟩
  simp only [evSeq] at hx
  by_cases e:i=p.length
  ·subst e; rw [ho] at ho'; obtain rfl:=Option.some.inj ho'; exact hx.1
  ·exact g2 hx.2 i o' (by simp; omega) ho'
abbrev Foot:=List Comp×List Comp
def foots (ty:Tys) (tb:Fns) (nt:Nat) (ds:List (Option Nat)):List Oper→St→List Foot
 | [],_=>[]
 | o::r,st=>((evGuarded ty tb ds o).log st,writes o.dst ((evGuarded ty tb ds o).run st))::foots ty tb nt ds r (stepIdx ty tb nt ds o st).2
theorem foots_get:∀ (r p:List Oper) (i:Nat),ops=p++r→i<r.length→(foots ty tb nt (ops.map (·.dst)) r (refSt ty tb nt ops st p.length))[i]? =some (readsAt ty tb nt ops st (p.length+i),writesAt ty tb nt ops st (p.length+i))
 | [],_,_,_,hi=>absurd hi (by simp)
 | o::r,p,i,h,hi=>by
  have ho:ops[p.length]? =some o:=by rw [h,List.getElem?_append_right (Nat.le_refl _)]; simp
  have hs:refSt ty tb nt ops st ((p++[o]).length)=(stepIdx ty tb nt (ops.map (·.dst)) o (refSt ty tb nt ops st p.length)).2:=by simp [refSt,ho]
  cases i with
  | zero=>simp [foots,readsAt,writesAt,ho]
  | succ i=>
   have:=foots_get r (p++[o]) i (by rw [h]; simp) (by simpa using hi)
   rw [hs] at this
   simp only [foots,List.getElem?_cons_succ]
   rw [this]
   simp [Nat.add_assoc,Nat.add_comm 1 i]
def ceq:Comp→Comp→Bool
 | .slot a,.slot b=>a == b
 | .box a,.box b=>a == b
 | .lab a,.lab b=>a == b
 | _,_=>false
theorem ceq_spec {a b:Comp}:ceq a b=true↔a=b:=by cases a<;>cases b<;>simp [ceq]
def meets (l r:List Comp):Bool:=l.any fun a=>r.any fun b=>ceq a b
theorem meets_spec {l r:List Comp} {c:Comp} (h1:c∈l) (h2:c∈r):meets l r=true:=by
 simp only [meets,List.any_eq_true]
 exact ⟨c,h1,c,h2,ceq_spec.2 rfl⟩
def clash (g f:Foot):Bool:=meets g.2 f.1 || meets g.2 f.2 || meets g.1 f.2
def okAll (cl:List Nat) (f:Foot):Nat→List Foot→Bool
 | _,[]=>true
 | k,g::r=>(cl.contains k || !clash g f) && okAll cl f (k+1) r
def clo (prev:List (List Nat)) (es:List Edge):List Nat:=es.flatMap fun e=>if Region.binds .any e=true then e.on::prev.getD e.on [] else []
def chk (prev:List (List Nat)) (pf:List Foot):List Oper→List Foot→Bool
 | [],[]=>true
 | o::r,f::fs=>okAll (clo prev o.after.toList) f 0 pf && chk (prev++[clo prev o.after.toList]) (pf++[f]) r fs
 | _,_=>false
theorem okAll_spec {cl : List Nat} {f : Foot} : ∀ {l : List Foot} {k : Nat}, okAll cl f k l = true → ∀ i g, l[i]? = some g → k + i ∈ cl ∨ clash g f = false
  | [], _, _, i, g, hg => by simp at hg
  | x :: r, k, h, i, g, hg => by
    simp only [okAll, Bool.and_eq_true, Bool.or_eq_true, Bool.not_eq_true', List.contains_iff_mem] at h
    cases i with
    | zero => obtain rfl : x = g := by simpa using hg
              exact h.1
    | succ i =>
      rcases okAll_spec h.2 i g (by simpa using hg) with h' | h'
      · exact .inl (by have e : k + (i + 1) = k + 1 + i := by omega
                       rw [e]; exact h')
      · exact .inr h'
theorem chk_spec {fts:List Foot}:∀ (r p:List Oper) (prev:List (List Nat)) (pf fs:List Foot),ops=p++r→fts=pf++fs→prev.length=p.length→pf.length=p.length→
 (∀ (k:Nat) (cl:List Nat),prev[k]? =some cl→∀ x∈cl,Pre ops x k)→chk prev pf r fs=true→
 ∀ (j:Nat) (o:Oper),p.length≤j→ops[j]? =some o→∀ (i:Nat) (g f:Foot),i<j→fts[i]? =some g→fts[j]? =some f→Pre ops i j∨clash g f=false
 | [],p,prev,pf,fs,hop,hft,hpl,hfl,hcl,hc,j,o,hj,ho=>by
  have:=(List.getElem?_eq_some_iff.1 ho).1
  rw [hop] at this
  simp at this; omega
 | x::r,p,prev,pf,[],hop,hft,hpl,hfl,hcl,hc,j,o,hj,ho=>by simp [chk] at hc
 | x::r,p,prev,pf,f0::fs,hop,hft,hpl,hfl,hcl,hc,j,o,hj,ho=>by
  have hx:ops[p.length]? =some x:=by rw [hop,List.getElem?_append_right (Nat.le_refl _)]; simp
  simp only [chk,Bool.and_eq_true] at hc
  obtain ⟨c2,c3⟩:=hc
  have hclo:∀ y∈clo prev x.after.toList,Pre ops y p.length:=by
   intro y hy
   simp only [clo,List.mem_flatMap] at hy
   obtain ⟨e,he,hy⟩:=hy
   have he':=Array.mem_toList_iff.1 he
   split at hy
   case isFalse=>cases hy
   rename_i hb
   rcases List.mem_cons.1 hy with rfl | hy
   ·exact .edge hx he' hb rfl
   ·cases hp:prev[e.on]? with
    | none=>rw [List.getD_eq_getElem?_getD,hp] at hy; simp at hy
    | some cl=>
     rw [List.getD_eq_getElem?_getD,hp] at hy
     exact .step (hcl _ _ hp y hy) (.edge hx he' hb rfl)
  by_cases e:j=p.length
  ·subst e
   rw [hx] at ho; obtain rfl:=Option.some.inj ho
   intro i g f hi hg hf
   rw [hft,List.getElem?_append_left (by omega)] at hg
   rw [hft, ← hfl,List.getElem?_append_right (Nat.le_refl _)] at hf
   obtain rfl:f0=f:=by simpa using hf
   rcases okAll_spec c2 i g hg with h | h
   ·rw [Nat.zero_add] at h; exact .inl (hclo i h)
   ·exact .inr h
  ·refine chk_spec r (p++[x]) _ (pf++[f0]) fs (by rw [hop]; simp) (by rw [hft]; simp) (by simp [hpl]) (by simp [hfl]) (fun k cl hk=> ?_) c3 j o (by simp; omega) ho
   rcases Nat.lt_or_ge k prev.length with h | h
   ·rw [List.getElem?_append_left h] at hk; exact hcl k cl hk
   ·rw [List.getElem?_append_right h] at hk
    have hk0:k - prev.length=0:=by
     have:=(List.getElem?_eq_some_iff.1 hk).1
     simpa using this
    rw [hk0] at hk
    obtain rfl:clo prev x.after.toList=cl:=by simpa using hk
    have:k=p.length:=by omega
    rw [this]; exact hclo
end
def drawn (ty:Tys) (tb:Fns) (nt:Nat) (ops:List Oper) (st:St):Prop:=
 ordChk ops=true∧chk [] [] ops (foots ty tb nt (ops.map (·.dst)) ops st)=true
theorem drawn_ok {P:Program} {ty:Tys} {tb:Fns} {n:Nat} (hty:TyOk P ty) (htb:FnsOk P tb) (cx:Cx) (hn:cx.nt=n):DrawOk P ty tb cx (drawn ty tb n):=by
 subst hn
 intro ρ id ops st Q m a w R hobl hd hQ
 obtain ⟨hord,hd⟩:=hd
 have hspec:=chk_spec (ops:=ops.toList) (fts:=foots ty tb cx.nt (ops.toList.map (·.dst)) ops.toList st) ops.toList [] [] [] (foots ty tb cx.nt (ops.toList.map fun o=>o.dst) ops.toList st) rfl rfl rfl rfl (fun k cl h=>by simp at h) hd
 have hfg:=fun i (hi:i<ops.toList.length)=>foots_get (ty:=ty) (tb:=tb) (nt:=cx.nt) (ops:=ops.toList) (st:=st) ops.toList [] i rfl hi
 have hlt:∀ j c,c∈writesAt ty tb cx.nt ops.toList st j→j<ops.toList.length:=by
  intro j c hc
  cases ho:ops.toList[j]? with
  | none=>simp [writesAt,ho] at hc
  | some o=>exact (List.getElem?_eq_some_iff.1 ho).1
 have hltr:∀ j c,c∈readsAt ty tb cx.nt ops.toList st j→j<ops.toList.length:=by
  intro j c hc
  cases ho:ops.toList[j]? with
  | none=>simp [readsAt,ho] at hc
  | some o=>exact (List.getElem?_eq_some_iff.1 ho).1
 have hfree:Free ty tb cx.nt ops.toList st:=by
  intro i j c hij hcl
  have hj:j<ops.toList.length:=by
   rcases hcl with ⟨_,h | h⟩ | ⟨_,h⟩
   ·exact hltr j c h
   ·exact hlt j c h
   ·exact hlt j c h
  have hg:=hfg i (by omega)
  have hf:=hfg j hj
  simp only [List.length_nil,Nat.zero_add] at hg hf
  rcases hspec j _ (Nat.zero_le _) (List.getElem?_eq_getElem hj) i _ _ hij hg hf with h | h
  ·exact h
  ·simp only [clash,Bool.or_eq_false_iff] at h
   rcases hcl with ⟨h1,h2 | h2⟩ | ⟨h1,h2⟩
   ·rw [meets_spec h1 h2] at h; simp at h
   ·rw [meets_spec h1 h2] at h; simp at h
   ·rw [meets_spec h1 h2] at h; simp at h
 obtain ⟨e1,e2⟩:=evSeq_ref (ty:=ty) (tb:=tb) (nt:=cx.nt) (ops:=ops.toList) (st:=st) ops.toList [] rfl
 have e2':=e2 hobl
 simp only [List.length_nil,refSt] at e1
 refine wpIn_region_draw fun t=> ?_
 obtain ⟨o1,o2⟩:=schedule_ord hord (P.follows .mixedOrders) t
 have hl0:Last ty tb cx.nt ops.toList st (· ∈([]:List Nat)) st:=fun c=> .inr ⟨fun j h=>by simp at h,rfl⟩
 obtain ⟨g1,g2⟩:=ord_run hfree (fun i o ho=>e2' i o (Nat.zero_le _) ho) o1 st (fun i j h=>by simp at h) hl0
 refine ops_sound hty htb _ st m a _ (R.drawn _) g1 (fun m' a' w' R'=>hQ m' a' w' ?_)
 have hall:∀ c,(evIdx ty tb cx.nt ops.toList (Region.schedule (P.follows .mixedOrders) ops t) st).2.get c=(refSt ty tb cx.nt ops.toList st ops.toList.length).get c:=by
  intro c
  refine g2.agree (last_ref _) (fun j hw=> ?_)
  have:=hlt j c hw
  exact ⟨fun _=>this,fun _=>by simpa using o2 j (by simpa using this)⟩
 rw [e1]
 refine Rel.alike R' (fun k=> ?_) (fun k=> ?_) (fun k=> ?_)
 ·have:=hall (.slot k); simp only [St.get,CV.slot.injEq] at this; exact this.symm
 ·have:=hall (.box k); simp only [St.get,CV.box.injEq] at this; exact this.symm
 ·have:=hall (.lab k); simp only [St.get,CV.lab.injEq] at this; exact this.symm
end Go.Abs
set_option linter.unusedVariables false
set_option linter.unusedSimpArgs false
namespace Go.Abs
theorem lab_fun {k:Nat} {f g:Option Lab→Rd Out} (h0:f none=g none) (h1:f (some .dead)=g (some .dead)) (h2:∀ x,f (some (.owned x))=g (some (.owned x))) (h3:∀ x,f (some (.shared x))=g (some (.shared x))) (h4:∀ x,f (some (.deep x))=g (some (.deep x)):=by intros; rfl) (h5:∀ x,f (some (.set x))=g (some (.set x)):=by intros; rfl):(Rd.lab k f)= .lab k g:=by
 congr 1; funext x; rcases x with _ | x
 ·exact h0
 ·cases x
  ·exact h1
  ·exact h2 _
  ·exact h3 _
  ·exact h4 _
  ·exact h5 _
theorem box_fun {k:Nat} {f g:Option (List AC)→Rd Out} (h0:f none=g none) (h1:∀ x,f (some x)=g (some x)):(Rd.box k f)= .box k g:=by
 congr 1; funext x; rcases x with _ | x
 ·exact h0
 ·exact h1 _
def kCons {α:Type} (f:List α→Rd Out) (v:α) (vs:List α):Rd Out:=f (v::vs)
def kOpds (r:List Operand) (f:List AV→Rd Out) (v:AV):Rd Out:=opds r (kCons f v)
theorem opds_nil (f:List AV→Rd Out):opds [] f=f []:=rfl
theorem opds_cons (x:Operand) (r:List Operand) (f:List AV→Rd Out):opds (x::r) f=opd x (kOpds r f):=rfl
def kD (f:D→Rd Out):Option Lab→Rd Out
 | some (.owned x)=>f x
 | some (.shared x)=>f x
 | _=>bad
theorem toD_d (x:D) (f:D→Rd Out):toD (.d x) f=f x:=rfl
theorem toD_sptr (l:List D) (f:D→Rd Out):toD (.sptr l 0) f=f (.pt true l):=rfl
theorem toD_clo (g:Nat) (f:D→Rd Out):toD (.clo g []) f=f (.fn g):=rfl
theorem toD_nils (f:D→Rd Out):toD .nils f=f (.sl 0 0 fun _=>[]):=rfl
theorem toD_own (k:Nat) (f:D→Rd Out):toD (.own k) f= .lab k (kD f):=by
 exact lab_fun rfl rfl (fun _=>rfl) (fun _=>rfl)
def kDs (r:List AC) (f:List D→Rd Out) (d:D):Rd Out:=toDs r (kCons f d)
theorem toDs_nil (f:List D→Rd Out):toDs [] f=f []:=rfl
theorem toDs_cons (x:AC) (r:List AC) (f:List D→Rd Out):toDs (x::r) f=toD x (kDs r f):=rfl
def kCap (f:List D→Rd Out):Option (List AC)→Rd Out
 | some cs=>toDs cs f
 | none=>bad
theorem capDs_ref (b:Nat) (f:List D→Rd Out):capDs (.ref b 0) f= .box b (kCap f):=by
 exact box_fun rfl (fun _=>rfl)
theorem capDs_sptr (l:List D) (f:List D→Rd Out):capDs (.sptr l 0) f=f l:=rfl
def kCaps (r:List Cap) (f:List (List D)→Rd Out) (d:List D):Rd Out:=capsDs r (kCons f d)
theorem capsDs_nil (f:List (List D)→Rd Out):capsDs [] f=f []:=rfl
theorem capsDs_cons (x:Cap) (r:List Cap) (f:List (List D)→Rd Out):capsDs (x::r) f=capDs x (kCaps r f):=rfl
def kArgC (f:Arg→Rd Out) (d:D):Rd Out:=f (.c d)
def kArgA (f:Arg→Rd Out) (d:List D):Rd Out:=f (.agg d)
def kArgF (g:Nat) (f:Arg→Rd Out) (ds:List (List D)):Rd Out:=f (.clo g ds)
theorem toArg_clo (g:Nat) (caps:List Cap) (f:Arg→Rd Out):toArg (.u (.c (.clo g caps))) f=capsDs caps (kArgF g f):=rfl
theorem toArg_d (x:D) (f:Arg→Rd Out):toArg (.u (.c (.d x))) f=f (.c x):=rfl
theorem toArg_sptr (l:List D) (f:Arg→Rd Out):toArg (.u (.c (.sptr l 0))) f=f (.c (.pt true l)):=rfl
def kBs3 (f:D→Rd Out) (s n:Nat) (ds:List D):Rd Out:=f (D.ofList s (chunks s ds n))
theorem bslD_k (off n s:Nat) (cs:List AC) (f:D→Rd Out):bslD off n s cs f=if off+n*s≤cs.length∧0<s then toDs ((cs.drop off).take (n*s)) (kBs3 f s n) else bad:=rfl
def kBsl (off n s:Nat) (f:Arg→Rd Out):Option (List AC)→Rd Out
 | some cs=>bslD off n s cs (kArgC f)
 | none=>bad
theorem toArg_bsl (b off n s:Nat) (f:Arg→Rd Out):toArg (.u (.c (.bsl b off n s))) f= .box b (kBsl off n s f):=box_fun rfl (fun _=>rfl)
theorem toArg_nils (f:Arg→Rd Out):toArg (.u (.c .nils)) f=f (.c (.sl 0 0 fun _=>[])):=rfl
theorem toArg_own (k:Nat) (f:Arg→Rd Out):toArg (.u (.c (.own k))) f= .lab k (kD (kArgC f)):=by
 show toD (.own k) (fun d=>f (.c d))=_
 rw [toD_own]; rfl
theorem toArg_agg (l:List AC) (f:Arg→Rd Out):toArg (.u (.agg l)) f=toDs l (kArgA f):=rfl
def kArgs (r:List AV) (f:List Arg→Rd Out) (a:Arg):Rd Out:=toArgs r (kCons f a)
theorem toArgs_nil (f:List Arg→Rd Out):toArgs [] f=f []:=rfl
theorem toArgs_cons (x:AV) (r:List AV) (f:List Arg→Rd Out):toArgs (x::r) f=toArg x (kArgs r f):=rfl
def kNewN (n nm:Nat) (f:Nat→Rd Out):Option Lab→Rd Out | none=>f nm | some _=>newLabN n (nm+100000) f
theorem newLabN_k (n nm:Nat) (f:Nat→Rd Out):newLabN (n+1) nm f= .lab nm (kNewN n nm f):=by
 exact lab_fun rfl rfl (fun _=>rfl) (fun _=>rfl)
theorem newLab_k (nm:Nat) (f:Nat→Rd Out):newLab nm f= .lab nm (kNewN 7 nm f):=newLabN_k 7 nm f
def kNewBN (n nm:Nat) (f:Nat→Rd Out):Option (List AC)→Rd Out | none=>f nm | some _=>newBoxN n (nm+100000) f
theorem newBoxN_k (n nm:Nat) (f:Nat→Rd Out):newBoxN (n+1) nm f= .box nm (kNewBN n nm f):=by
 exact box_fun rfl (fun x=>rfl)
theorem newBox_k (nm:Nat) (f:Nat→Rd Out):newBox nm f= .box nm (kNewBN 7 nm f):=newBoxN_k 7 nm f
def kSh2 (k:Nat) (x:D) (f:List Wr→Rd Out) (ws:List Wr):Rd Out:=f (.lab k (.shared x)::ws)
def kSh (k:Nat) (r:List AC) (f:List Wr→Rd Out):Option Lab→Rd Out
 | some (.owned x)=>shareLabs r (kSh2 k x f)
 | some (.shared _)=>shareLabs r f
 | _=>bad
theorem shareLabs_nil (f:List Wr→Rd Out):shareLabs [] f=f []:=rfl
theorem shareLabs_own (k:Nat) (r:List AC) (f:List Wr→Rd Out):shareLabs (.own k::r) f= .lab k (kSh k r f):=by
 exact lab_fun rfl rfl (fun _=>rfl) (fun _=>rfl)
theorem shareLabs_d (x:D) (r:List AC) (f:List Wr→Rd Out):shareLabs (.d x::r) f=shareLabs r f:=rfl
theorem shareLabs_nils (r:List AC) (f:List Wr→Rd Out):shareLabs (.nils::r) f=shareLabs r f:=rfl
theorem shareLabs_sptr (l:List D) (off:Nat) (r:List AC) (f:List Wr→Rd Out):shareLabs (.sptr l off::r) f=shareLabs r f:=rfl
theorem shareLabs_ref (b off:Nat) (r:List AC) (f:List Wr→Rd Out):shareLabs (.ref b off::r) f=shareLabs r f:=rfl
theorem shareLabs_clo (g:Nat) (c:List Cap) (r:List AC) (f:List Wr→Rd Out):shareLabs (.clo g c::r) f=shareLabs r f:=rfl
def kNewSl (p:Prop) (x:D) (ws:List Wr) (k:Nat):Rd Out:= .ret ⟨p,.c (.own k),ws++[.lab k (.owned x)]⟩
theorem newSl_true (nm:Nat) (p:Prop) (x:D) (ws:List Wr):newSl true nm p x ws=newLab nm (kNewSl p x ws):=rfl
theorem newSl_false (nm:Nat) (p:Prop) (x:D):newSl false nm p x []= .ret ⟨p,.c (.d x),[]⟩:=rfl
def kLoadB (i:TI) (off:Nat):Option (List AC)→Rd Out
 | some cs=>loadD i off cs
 | none=>bad
def kLoadL (i:TI) (j off:Nat):Option Lab→Rd Out
 | some (.owned x)=>loadD i off ((x.nth j).map .d)
 | some (.shared x)=>loadD i off ((x.nth j).map .d)
 | _=>bad
def kLoad1 (i:TI):AV→Rd Out
 | .u (.c (.ref b off))=> .box b (kLoadB i off)
 | .u (.c (.optr k j off))=> .lab k (kLoadL i j off)
 | .u (.c (.sptr l off))=>loadD i off (l.map .d)
 | .u (.c (.d (.pt b l)))=>loadP i b l
 | .u (.c (.glob g off))=>loadG i g off
 | _=>bad
def kLoad:Option TI→AV→Rd Out
 | some i,a=>kLoad1 i a
 | none,_=>bad
theorem evLoad_k (ty:Tys) (t:Nat) (a:AV):evLoad ty t a=kLoad (ty t) a:=by
 unfold evLoad kLoad
 cases ty t with
 | none=>cases a<;>rfl
 | some i=>
  cases a with
  | u a=>cases a with
   | c a=>cases a<;>first | rfl | exact box_fun rfl (fun _=>rfl) | exact lab_fun rfl rfl (fun _=>rfl) (fun _=>rfl) | (rename_i x; cases x<;>rfl)
   | agg l=>rfl
  | _=>rfl
def kStB (i:TI) (b off:Nat) (v:AU):Option (List AC)→Rd Out
 | some cs=> .ret ⟨v.cells.length=i.size∧v.solid=true∧off+v.cells.length≤cs.length,default,[.box b (splice cs off v.cells)]⟩
 | none=>bad
def kStL2 (i:TI) (k j off:Nat) (v:AU) (x:D):Option (List D)→Rd Out
 | some ds=> .ret ⟨v.cells.length=i.size∧v.solid=true∧off+v.cells.length≤x.stride,default,[.lab k (.owned (x.setAt j off ds))]⟩
 | none=>bad
def kStL (i:TI) (k j off:Nat) (v:AU):Option Lab→Rd Out
 | some (.owned x)=>kStL2 i k j off v x (plainDs v.cells)
 | _=>bad
def kSt1 (i:TI) (v:AU):AV→Rd Out
 | .u (.c (.ref b off))=> .box b (kStB i b off v)
 | .u (.c (.optr k j off))=> .lab k (kStL i k j off v)
 | _=>bad
def kSt (a:AV):Option TI→AV→Rd Out
 | some i,.u v=>kSt1 i v a
 | _,_=>bad
theorem evStore_k (ty:Tys) (t:Nat) (a v:AV):evStore ty t a v=kSt a (ty t) v:=by
 unfold evStore kSt
 cases ty t with
 | none=>cases v<;>rfl
 | some i=>
  cases v with
  | u v=>cases a with
   | u a=>cases a with
    | c a=>cases a<;>first | rfl | exact box_fun rfl (fun _=>rfl) | (refine lab_fun rfl rfl (fun x=> ?_) (fun _=>rfl); simp only [kStL]; cases plainDs v.cells<;>rfl)
    | agg l=>rfl
   | _=>rfl
  | _=>rfl
def kFa2 (k i o:Nat):Option Lab→Rd Out
 | some (.owned _)=>okv (.c (.optr k i o))
 | some (.shared _)=>okv (.c (.optr k i o))
 | _=>bad
def kFa1 (o:Nat):AV→Rd Out
 | .u (.c (.ref b off))=>okv (.c (.ref b (off+o)))
 | .u (.c (.optr k i off))=> .lab k (kFa2 k i (off+o))
 | .u (.c (.sptr l off))=>okv (.c (.sptr l (off+o)))
 | .u (.c (.d (.pt b l)))=> .ret ⟨b=true,.c (.sptr l o),[]⟩
 | _=>bad
def kFa (a:AV):Option (Nat×TI)→Rd Out
 | some p=>kFa1 p.1 a
 | none=>bad
theorem evFieldAddr_k (ty:Tys) (s f:Nat) (a:AV):evFieldAddr ty s f a=kFa a (fieldOff ty s f):=by
 unfold evFieldAddr kFa
 cases fieldOff ty s f with
 | none=>cases a<;>rfl
 | some p=>
  cases a with
  | u a=>cases a with
   | c a=>cases a<;>first | rfl | exact lab_fun rfl rfl (fun _=>rfl) (fun _=>rfl) | (rename_i x; cases x<;>rfl)
   | agg l=>rfl
  | _=>rfl
def kIx (k:Nat) (i:Int) (e:TI):Option Lab→Rd Out
 | some (.owned x)=> .ret ⟨(0≤i∧i<x.len)∧x.stride=e.size,.c (.optr k i.toNat 0),[]⟩
 | some (.shared x)=> .ret ⟨(0≤i∧i<x.len)∧x.stride=e.size,.c (.sptr (x.nth i.toNat) 0),[]⟩
 | some (.deep x)=> .ret ⟨(0≤i∧i<x.len)∧x.stride=e.size,.c (.optr k i.toNat 0),[]⟩
 | _=>bad
theorem evIndexAddr_own (ty:Tys) (t k:Nat) (kd:IntKind) (i:Int):evIndexAddr ty t (.u (.c (.own k))) (.u (.c (.d (.int kd i))))=
 match ty t,elemTI ty t with
 | some { desc:= .slice _,.. },some e=> .lab k (kIx k i e)
 | _,_=>bad:=by
 unfold evIndexAddr
 cases ty t with
 | none=>rfl
 | some ti=>
  cases elemTI ty t with
  | none=>obtain ⟨_,_,_,_,d,_⟩:=ti; cases d<;>rfl
  | some e=>
   obtain ⟨_,_,_,_,d,_⟩:=ti
   cases d<;>first | rfl | exact lab_fun rfl rfl (fun _=>rfl) (fun _=>rfl)
def kIxo (k j o:Nat) (p:Prop):Option Lab→Rd Out
 | some (.owned _)=> .ret ⟨p,.c (.optr k j o),[]⟩
 | some (.shared _)=> .ret ⟨p,.c (.optr k j o),[]⟩
 | _=>bad
theorem evIndexAddr_optr (ty:Tys) (t k j off:Nat) (kd:IntKind) (i:Int):evIndexAddr ty t (.u (.c (.optr k j off))) (.u (.c (.d (.int kd i))))=
 match ty t,elemTI ty t with
 | some { desc:= .array n _,.. },some e=> .lab k (kIxo k j (off+i.toNat*e.size) (0≤i∧i<n))
 | _,_=>bad:=by
 unfold evIndexAddr
 cases ty t with
 | none=>rfl
 | some ti=>
  cases elemTI ty t with
  | none=>obtain ⟨_,_,_,_,d,_⟩:=ti; cases d<;>rfl
  | some e=>
   obtain ⟨_,_,_,_,d,_⟩:=ti
   cases d<;>first | rfl | exact lab_fun rfl rfl (fun _=>rfl) (fun _=>rfl)
theorem kIxo_o (k j o:Nat) (p:Prop) (x:D):kIxo k j o p (some (.owned x))= .ret ⟨p,.c (.optr k j o),[]⟩:=(rfl)
theorem kIxo_s (k j o:Nat) (p:Prop) (x:D):kIxo k j o p (some (.shared x))= .ret ⟨p,.c (.optr k j o),[]⟩:=(rfl)
theorem kIx_o (k:Nat) (i:Int) (e:TI) (x:D):kIx k i e (some (.owned x))= .ret ⟨(0≤i∧i<x.len)∧x.stride=e.size,.c (.optr k i.toNat 0),[]⟩:=(rfl)
theorem kIx_s (k:Nat) (i:Int) (e:TI) (x:D):kIx k i e (some (.shared x))= .ret ⟨(0≤i∧i<x.len)∧x.stride=e.size,.c (.sptr (x.nth i.toNat) 0),[]⟩:=(rfl)
theorem kIx_d (k:Nat) (i:Int) (e:TI) (x:D):kIx k i e (some (.deep x))= .ret ⟨(0≤i∧i<x.len)∧x.stride=e.size,.c (.optr k i.toNat 0),[]⟩:=(rfl)
def kBs2 (lin:Bool) (nm len:Nat) (i:TI) (ws:List Wr) (ds:List D):Rd Out:=
 newSl lin nm (len*i.size≤16777216∧i.zero.length=i.size∧0<i.size) (D.ofList i.size (chunks i.size ds len)) ws
def kBs1 (lin:Bool) (nm len:Nat) (i:TI) (cs:List AC) (ws:List Wr):Rd Out:=toDsN cs (kBs2 lin nm len i ws)
theorem toDsN_nils (f:List D→Rd Out):toDsN [.nils] f=f [.nl]:=(rfl)
theorem toDsN_nil (f:List D→Rd Out):toDsN [] f=toDs [] f:=(rfl)
theorem toDsN_d (x:D) (f:List D→Rd Out):toDsN [.d x] f=toDs [.d x] f:=(rfl)
theorem toDsN_own (k:Nat) (f:List D→Rd Out):toDsN [.own k] f=toDs [.own k] f:=(rfl)
theorem toDsN_sptr (l:List D) (o:Nat) (f:List D→Rd Out):toDsN [.sptr l o] f=toDs [.sptr l o] f:=(rfl)
theorem toDsN_cons (x y:AC) (r:List AC) (f:List D→Rd Out):toDsN (x::y::r) f=toDs (x::y::r) f:=by cases x<;>rfl
def kBsR (len:Nat) (i:TI) (cs:List AC) (b:Nat):Rd Out:= .ret ⟨(len*i.size≤16777216∧len*i.size≠0)∧cs.all AC.solid=true,.c (.bsl b 0 len i.size),[.box b cs]⟩
def kBsB (lin:Bool) (nm len:Nat) (i:TI) (cs:List AC):Bool→Bool→Rd Out
 | false,_=>shareLabs cs (kBs1 lin nm len i cs)
 | true,true=>newBox nm (kBsR len i cs)
 | true,false=>bad
theorem hasRef_nil:hasRef []=false:=(rfl)
theorem hasRef_ref (b o:Nat) (r:List AC):hasRef (.ref b o::r)=true:=(rfl)
theorem hasRef_d (x:D) (r:List AC):hasRef (.d x::r)=hasRef r:=(rfl)
theorem hasRef_nils (r:List AC):hasRef (.nils::r)=hasRef r:=(rfl)
theorem hasRef_own (k:Nat) (r:List AC):hasRef (.own k::r)=hasRef r:=(rfl)
theorem hasRef_sptr (l:List D) (o:Nat) (r:List AC):hasRef (.sptr l o::r)=hasRef r:=(rfl)
theorem hasRef_clo (f:Nat) (c:List Cap) (r:List AC):hasRef (.clo f c::r)=hasRef r:=(rfl)
def kBs (lin:Bool) (nm len:Nat) (i:TI):Option (List AC)→Rd Out
 | some cs=>kBsB lin nm len i cs (hasRef cs) lin
 | none=>bad
theorem evBuildSlice_k (ty:Tys) (lin:Bool) (nm t len:Nat) (parts:List (Nat×AV)):evBuildSlice ty lin nm t len parts=
 match ty t with
 | some { desc:= .slice e,.. } =>
  match ty e with
  | some i=>kBs lin nm len i (fillParts (fun j=>some (j*i.size,i.size)) (reps (i.zero.map zAC) len) parts)
  | none=>bad
 | _=>bad:=by
 unfold evBuildSlice
 cases ty t with
 | none=>rfl
 | some ti=>
  obtain ⟨_,_,_,_,d,_⟩:=ti
  cases d<;>first | rfl | skip
  rename_i e
  simp only
  cases ty e with
  | none=>rfl
  | some i=>
   simp only [kBs]
   cases fillParts (fun j=>some (j*i.size,i.size)) (reps (i.zero.map zAC) len) parts with
   | none=>rfl
   | some cs=>simp only; cases hasRef cs<;>cases lin<;>rfl
def kSl2 (e:TI) (lo hi:Option AV) (max:Bool) (ws:List Wr) (d:D):Rd Out:=evCut e lo hi max d ws
def kSl1 (e:TI) (x:AC) (lo hi:Option AV) (max:Bool) (ws:List Wr):Rd Out:=toD x (kSl2 e lo hi max ws)
def kSlA (e:TI) (n:Nat) (lo hi:Option AV) (max:Bool):AC→Rd Out
 | .ref b off=>
  match bound lo 0,bound hi n with
  | some l,some h=> .ret ⟨max=false∧(0≤l∧l≤h∧h≤n)∧l<n,.c (.bsl b (off+l.toNat*e.size) (h.toNat - l.toNat) e.size),[]⟩
  | _,_=>bad
 | _=>bad
def kSlS (lo hi:Option AV) (max:Bool):AC→Rd Out
 | .d (.str s)=>
  match bound lo 0,bound hi s.size with
  | some l,some h=> .ret ⟨max=false∧0≤l∧l≤h∧h≤s.size,.c (.d (.str (s.extract l.toNat h.toNat))),[]⟩
  | _,_=>bad
 | _=>bad
theorem evSlice_k (ty:Tys) (t:Nat) (x:AC) (lo hi:Option AV) (max:Bool):evSlice ty t (.u (.c x)) lo hi max=
 match ty t,elemTI ty t with
 | some { desc:= .slice _,.. },some e=>shareLabs [x] (kSl1 e x lo hi max)
 | some { desc:= .array n _,.. },some e=>kSlA e n lo hi max x
 | some { desc:= .string,.. },_=>kSlS lo hi max x
 | _,_=>bad:=by
 unfold evSlice
 cases ty t with
 | none=>rfl
 | some ti=>
  obtain ⟨_,_,_,_,d,_⟩:=ti
  cases elemTI ty t with
  | none=>cases d<;>first | rfl | (cases x<;>first | rfl | (rename_i y; cases y<;>rfl))
  | some e=>cases d<;>first | rfl | (cases x<;>first | rfl | (rename_i y; cases y<;>rfl))
def kLen (d:D):Rd Out:= .ret ⟨d.isSl=true,.c (.d (.int .i64 d.len)),[]⟩
def kLenL:Option Lab→Rd Out
 | some (.owned x)=> .ret ⟨x.isSl=true,.c (.d (.int .i64 x.len)),[]⟩
 | some (.shared x)=> .ret ⟨x.isSl=true,.c (.d (.int .i64 x.len)),[]⟩
 | some (.deep x)=> .ret ⟨x.isSl=true,.c (.d (.int .i64 x.len)),[]⟩
 | _=>bad
theorem kLenL_o (x:D):kLenL (some (.owned x))= .ret ⟨x.isSl=true,.c (.d (.int .i64 x.len)),[]⟩:=(rfl)
theorem kLenL_s (x:D):kLenL (some (.shared x))= .ret ⟨x.isSl=true,.c (.d (.int .i64 x.len)),[]⟩:=(rfl)
theorem kLenL_d (x:D):kLenL (some (.deep x))= .ret ⟨x.isSl=true,.c (.d (.int .i64 x.len)),[]⟩:=(rfl)
def kLen1 (x:AV):Option TI→Rd Out
 | some { desc:= .slice _,.. } =>match x with
  | .u (.c (.bsl _ _ n _))=>okv (.c (.d (.int .i64 n)))
  | .u (.c (.own k))=> .lab k kLenL
  | .u (.c x)=>toD x kLen
  | _=>bad
 | some { desc:= .string,.. } =>match x with
  | .u (.c (.d (.str s)))=>okv (.c (.d (.int .i64 s.size)))
  | _=>bad
 | _=>bad
theorem evLen_k (ty:Tys) (t:Nat) (x:AV):evLen ty t x=kLen1 x (ty t):=by
 unfold evLen kLen1
 cases ty t with
 | none=>rfl
 | some ti=>
  obtain ⟨_,_,_,_,d,_⟩:=ti
  cases x with
  | u x=>cases x with
   | c x=>cases d<;>first | rfl | (cases x<;>first | rfl | (rename_i y; cases y<;>rfl))
   | agg l=>cases d<;>rfl
  | _=>cases d<;>rfl
def kApp0 (e:TI) (d:D) (k:Nat):Rd Out:= .ret ⟨(d.isSl=true∧(d.len≠0→d.stride=e.size))∧d.len*e.bytes≤140737488355328∧d.len≤9223372036854775807,.c (.own k),
 [.lab k (.owned (D.cat (.sl e.size 0 fun _=>[]) d))]⟩
def kApp2 (e:TI) (j:Nat) (y:AC) (z d:D) (k:Nat):Rd Out:=
 .ret ⟨((d.isSl=true∧(d.len≠0→d.stride=e.size))∧z.stride=e.size∧notLab y j)∧(z.len+d.len)*e.bytes≤140737488355328∧z.len+d.len≤9223372036854775807,
  .c (.own k),[.lab j .dead,.lab k (.owned (D.cat z d))]⟩
def kApp4 (e:TI) (t j:Nat) (z d:D) (k:Nat):Rd Out:=
 .ret ⟨(d.isSl=true∧d.len=1∧d.stride=e.size∧nthB d 0=[.nl]∧e.size=1)∧(z.len+1)*e.bytes≤140737488355328∧z.len+1≤9223372036854775807,
  .c (.own k),[.lab j .dead,.lab k (.deep (z.app [.sl t 0 fun _=>[]]))]⟩
def kApp1 (e:TI) (t nm j:Nat) (y:AC) (d:D):Option Lab→Rd Out
 | some (.owned z)=>newLab nm (kApp2 e j y z d)
 | some (.deep z)=>newLab nm (kApp4 e t j z d)
 | _=>bad
theorem evApp_nils (e:TI) (t nm:Nat) (y:AC) (d:D):evApp e t nm .nils y d=newLab nm (kApp0 e d):=rfl
theorem evApp_own (e:TI) (t nm j:Nat) (y:AC) (d:D):evApp e t nm (.own j) y d= .lab j (kApp1 e t nm j y d):=lab_fun rfl rfl (fun _=>rfl) (fun _=>rfl)
def kApp3 (e:TI) (z d:D) (k:Nat):Rd Out:=
 .ret ⟨((d.isSl=true∧(d.len≠0→d.stride=e.size))∧(z.len≠0→z.stride=e.size)∧d.len≠0)∧(z.len+d.len)*e.bytes≤140737488355328∧z.len+d.len≤9223372036854775807,
  .c (.own k),[.lab k (.owned (if z.len=0 then D.cat (.sl e.size 0 fun _=>[]) d else D.cat z d))]⟩
theorem evApp_clp (e:TI) (t nm:Nat) (z:D) (y:AC) (d:D):evApp e t nm (.clp z) y d=newLab nm (kApp3 e z d):=rfl
def kAppd (e:TI) (t nm:Nat) (s y:AC) (d:D):Rd Out:=evApp e t nm s y d
theorem evAppend_k (ty:Tys) (nm t:Nat) (s y:AC):evAppend ty true nm t (.u (.c s)) (.u (.c y))=
 match ty t,elemTI ty t with
 | some { desc:= .slice _,.. },some e=>toD y (kAppd e (innSz ty e) nm s y)
 | _,_=>bad:=by
 unfold evAppend
 cases ty t with
 | none=>rfl
 | some ti=>
  obtain ⟨_,_,_,_,d,_⟩:=ti
  cases elemTI ty t with
  | none=>cases d<;>rfl
  | some e=>cases d<;>first | rfl | (cases x<;>rfl)
def kRcD (x:D) (f:Nat→List AC→List (Nat×D)→Rd Out) (j:Nat) (cs:List AC) (ls:List (Nat×D)):Rd Out:=f j (.d x::cs) ls
def kRcO (k:Nat) (x:D) (f:Nat→List AC→List (Nat×D)→Rd Out) (j:Nat) (cs:List AC) (ls:List (Nat×D)):Rd Out:=f j (.own k::cs) ((k,x)::ls)
def kRc (nm j:Nat) (r:List RC) (x:D) (f:Nat→List AC→List (Nat×D)→Rd Out) (k:Nat):Rd Out:=resCells true nm (j+1) r (kRcO k x f)
theorem resCells_nil (lin:Bool) (nm j:Nat) (f:Nat→List AC→List (Nat×D)→Rd Out):resCells lin nm j [] f=f j [] []:=rfl
theorem resCells_d (lin:Bool) (nm j:Nat) (x:D) (r:List RC) (f:Nat→List AC→List (Nat×D)→Rd Out):resCells lin nm j (.d x::r) f=resCells lin nm j r (kRcD x f):=rfl
theorem resCells_own (nm j:Nat) (x:D) (r:List RC) (f:Nat→List AC→List (Nat×D)→Rd Out):resCells true nm j (.own x::r) f=newLab (nm+10000*j) (kRc nm j r x f):=rfl
theorem resCells_own' (nm j:Nat) (x:D) (r:List RC) (f:Nat→List AC→List (Nat×D)→Rd Out):resCells false nm j (.own x::r) f=resCells false nm j r (kRcD x f):=rfl
def kRauC (f:Nat→AU→List (Nat×D)→Rd Out) (j:Nat) (cs:List AC) (ls:List (Nat×D)):Rd Out:=f j (.c (cs.getD 0 .undef)) ls
def kRauA (f:Nat→AU→List (Nat×D)→Rd Out) (j:Nat) (cs:List AC) (ls:List (Nat×D)):Rd Out:=f j (.agg cs) ls
theorem resAU_c (lin:Bool) (nm j:Nat) (x:RC) (f:Nat→AU→List (Nat×D)→Rd Out):resAU lin nm j (.c x) f=resCells lin nm j [x] (kRauC f):=rfl
theorem resAU_agg (lin:Bool) (nm j:Nat) (x:List RC) (f:Nat→AU→List (Nat×D)→Rd Out):resAU lin nm j (.agg x) f=resCells lin nm j x (kRauA f):=rfl
def kRas2 (x:AU) (ls:List (Nat×D)) (f:List AU→List (Nat×D)→Rd Out) (xs:List AU) (ls':List (Nat×D)):Rd Out:=f (x::xs) (ls++ls')
def kRas (lin:Bool) (nm:Nat) (rs:List RV) (f:List AU→List (Nat×D)→Rd Out) (j:Nat) (x:AU) (ls:List (Nat×D)):Rd Out:=resAUs lin nm j rs (kRas2 x ls f)
theorem resAUs_nil (lin:Bool) (nm j:Nat) (f:List AU→List (Nat×D)→Rd Out):resAUs lin nm j [] f=f [] []:=rfl
theorem resAUs_cons (lin:Bool) (nm j:Nat) (r:RV) (rs:List RV) (f:List AU→List (Nat×D)→Rd Out):resAUs lin nm j (r::rs) f=resAU lin nm j r (kRas lin nm rs f):=rfl
def kCo (lin:Bool) (ws:List Wr) (p:Prop) (al:Bool) (as:List Arg) (xs:List AU) (ls:List (Nat×D)):Rd Out:=
 if lin=true∨ws.length=0 then
  .ret ⟨p∧(ls.map (·.1)).Nodup∧(al=true→noCaps as=true),resAV xs,ws++ls.map fun p=> .lab p.1 (.owned p.2)⟩
 else bad
theorem callOut_k (sp:FSpec) (lin:Bool) (nm:Nat) (caps:List Cap) (as:List Arg) (ws:List Wr):callOut sp lin nm caps as ws=resAUs lin nm 0 (sp.res as) (kCo lin ws (sp.pre as) sp.alias as):=rfl
def kC3 (sp:FSpec) (lin:Bool) (nm:Nat) (caps:List Cap) (as:List Arg) (ws:List Wr):Rd Out:=callOut sp lin nm caps as ws
def kC2b (sp:FSpec) (lin:Bool) (nm:Nat) (caps:List Cap) (args:List AV) (as:List Arg):Bool→Rd Out
 | true=>shareLabs (allCells args) (kC3 sp lin nm caps as)
 | false=>callOut sp lin nm caps as []
def kC2 (sp:FSpec) (lin:Bool) (nm:Nat) (caps:List Cap) (args:List AV) (as:List Arg) (ds:List (List D)):Rd Out:=kC2b sp lin nm caps args (as++ds.map .ptr) sp.alias
def kC1 (sp:FSpec) (lin:Bool) (nm:Nat) (caps:List Cap) (args:List AV) (as:List Arg):Rd Out:=capsDs caps (kC2 sp lin nm caps args as)
def kC0 (lin:Bool) (nm:Nat) (caps:List Cap) (args:List AV):Option FSpec→Rd Out
 | none=>bad
 | some sp=>toArgs args (kC1 sp lin nm caps args)
theorem evCallF_k (tb:Fns) (lin:Bool) (nm f:Nat) (caps:List Cap) (args:List AV):evCallF tb lin nm f caps args=kC0 lin nm caps args (tb f):=by
 unfold evCallF kC0
 cases tb f with
 | none=>rfl
 | some sp=>
  show toArgs args _=toArgs args _
  have h:∀ as,(capsDs caps fun ds=>if sp.alias then shareLabs (allCells args) fun ws=>callOut sp lin nm caps (as++ds.map .ptr) ws else callOut sp lin nm caps (as++ds.map .ptr) [])=kC1 sp lin nm caps args as:=fun as=>by
   have h2:∀ ds,(if sp.alias then shareLabs (allCells args) fun ws=>callOut sp lin nm caps (as++ds.map .ptr) ws else callOut sp lin nm caps (as++ds.map .ptr) [])=kC2 sp lin nm caps args as ds:=fun ds=>by
    simp only [kC2]
    cases h:sp.alias<;>rfl
   exact congrArg (capsDs caps) (funext h2)
  exact congrArg (toArgs args) (funext h)
section
variable (ty:Tys) (tb:Fns) (lin:Bool) (d:Option Nat) (T:TypeId) (p:String) (af:Array Edge) (g:Option (Nat×Bool))
theorem evOp_move (x:Operand):evOp ty tb lin ⟨d,.move x,T,p,af,g⟩=opd x okv:=rfl
theorem evOp_assign (x:Operand):evOp ty tb lin ⟨d,.assign x,T,p,af,g⟩=opd x okv:=rfl
def kPick2 (b:Operand) (c a:AV):Rd Out:=opd b (evPick c a)
def kPick1 (a b:Operand) (c:AV):Rd Out:=opd a (kPick2 b c)
theorem evOp_pick (c a b:Operand):evOp ty tb lin ⟨d,.pick c a b,T,p,af,g⟩=opd c (kPick1 a b):=rfl
def kAlloc (i:TI) (b:Nat):Rd Out:= .ret ⟨True,.c (.ref b 0),[.box b (i.zero.map zAC)]⟩
def kAlloc0 (nm:Nat):Option TI→Rd Out
 | some i=>newBox nm (kAlloc i)
 | none=>bad
theorem evOp_alloc (t:Nat):evOp ty tb true ⟨d,.alloc t,T,p,af,g⟩=kAlloc0 (d.getD 0) (ty t):=by
 show (match true,ty t with | true,some i=>_ | _,_=>_)=_
 cases ty t<;>rfl
def kBox2 (v:AU) (b:Nat):Rd Out:= .ret ⟨v.solid=true,.c (.ref b 0),[.box b v.cells]⟩
def kBox (nm:Nat):AV→Rd Out
 | .u v=>newBox nm (kBox2 v)
 | _=>bad
theorem evOp_box (t:Nat) (x:Operand):evOp ty tb true ⟨d,.box t x,T,p,af,g⟩=opd x (kBox (d.getD 0)):=by
 show opd x _=opd x _
 refine congrArg (opd x) (funext fun v=> ?_)
 cases v<;>rfl
def kBuild (t:Nat) (ix:List Nat) (vs:List AV):Rd Out:=evBuild ty t (ix.zip vs)
theorem evOp_build (t:Nat) (ps:Array (Nat×Operand)):evOp ty tb lin ⟨d,.build t ps,T,p,af,g⟩=opds (ps.toList.map (·.2)) (kBuild ty t (ps.toList.map (·.1))):=rfl
def kBuildS (nm t n:Nat) (ix:List Nat) (vs:List AV):Rd Out:=evBuildSlice ty lin nm t n (ix.zip vs)
theorem evOp_buildSlice (t n:Nat) (ps:Array (Nat×Operand)):evOp ty tb lin ⟨d,.buildSlice t n ps,T,p,af,g⟩=opds (ps.toList.map (·.2)) (kBuildS ty lin (d.getD 0) t n (ps.toList.map (·.1))):=rfl
theorem evOp_load (t:Nat) (a:Operand):evOp ty tb lin ⟨d,.load t a,T,p,af,g⟩=opd a (evLoadH ty lin (d.getD 0) t):=rfl
def kLh3 (k j off:Nat) (x:D) (i:TI) (kk:Nat):Rd Out:=
 .ret ⟨i.agg=false∧off=0∧j<x.len∧(yd x j).isSl=true,.c (.own kk),[.lab k (.deep (x.setAt j 0 [.undef])),.lab kk (.owned (yd x j))]⟩
def kLh2 (nm k j off:Nat) (x:D):Bool→Option TI→Rd Out
 | true,some i=>newLab nm (kLh3 k j off x i)
 | _,_=>bad
def kLh (nm t k j off:Nat):Option Lab→Rd Out
 | some (.deep x)=>kLh2 nm k j off x lin (ty t)
 | _=>evLoad ty t (.u (.c (.optr k j off)))
theorem evLoadH_optr (nm t k j off:Nat):evLoadH ty lin nm t (.u (.c (.optr k j off)))= .lab k (kLh ty lin nm t k j off):=by
 refine lab_fun rfl rfl (fun _=>rfl) (fun _=>rfl) (fun x=> ?_)
 simp only [kLh]
 cases ty t<;>cases lin<;>rfl
theorem evLoadH_ref (nm t b off:Nat):evLoadH ty lin nm t (.u (.c (.ref b off)))=evLoad ty t (.u (.c (.ref b off))):=(rfl)
theorem evLoadH_sptr (nm t off:Nat) (l:List D):evLoadH ty lin nm t (.u (.c (.sptr l off)))=evLoad ty t (.u (.c (.sptr l off))):=(rfl)
theorem evLoadH_d (nm t:Nat) (x:D):evLoadH ty lin nm t (.u (.c (.d x)))=evLoad ty t (.u (.c (.d x))):=(rfl)
theorem evLoadH_glob (nm t g off:Nat):evLoadH ty lin nm t (.u (.c (.glob g off)))=evLoad ty t (.u (.c (.glob g off))):=(rfl)
theorem kLh_o (nm t k j off:Nat) (x:D):kLh ty lin nm t k j off (some (.owned x))=evLoad ty t (.u (.c (.optr k j off))):=(rfl)
theorem kLh_s (nm t k j off:Nat) (x:D):kLh ty lin nm t k j off (some (.shared x))=evLoad ty t (.u (.c (.optr k j off))):=(rfl)
theorem kLh_d (nm t k j off:Nat) (x:D):kLh ty lin nm t k j off (some (.deep x))=kLh2 nm k j off x lin (ty t):=(rfl)
theorem kLh2_t (nm k j off:Nat) (x:D) (i:TI):kLh2 nm k j off x true (some i)=newLab nm (kLh3 k j off x i):=(rfl)
def kHs3 (k j off kk:Nat) (x y:D):Option TI→Rd Out
 | some i=> .ret ⟨i.size=1∧off=0∧j<x.len,default,[.lab k (.deep (x.setAt j 0 [y])),.lab kk .dead]⟩
 | none=>bad
def kHs2 (t k j off kk:Nat) (x:D):Option Lab→Rd Out
 | some (.owned y)=>kHs3 k j off kk x y (ty t)
 | _=>bad
def kHs (t k j off kk:Nat):Option Lab→Rd Out
 | some (.deep x)=> .lab kk (kHs2 ty t k j off kk x)
 | _=>bad
theorem evStoreH_own (t k j off kk:Nat):evStoreH ty t (.u (.c (.optr k j off))) (.u (.c (.own kk)))= .lab k (kHs ty t k j off kk):=by
 refine lab_fun rfl rfl (fun _=>rfl) (fun _=>rfl) (fun x=> ?_) (fun _=>rfl)
 refine lab_fun rfl rfl (fun y=> ?_) (fun _=>rfl) (fun _=>rfl) (fun _=>rfl)
 simp only [kHs2]; cases ty t<;>rfl
theorem evStoreH_ref (t b off:Nat) (v:AV):evStoreH ty t (.u (.c (.ref b off))) v=evStore ty t (.u (.c (.ref b off))) v:=(rfl)
theorem evStoreH_d (t k j off:Nat) (x:D):evStoreH ty t (.u (.c (.optr k j off))) (.u (.c (.d x)))=evStore ty t (.u (.c (.optr k j off))) (.u (.c (.d x))):=(rfl)
theorem evStoreH_nils (t k j off:Nat):evStoreH ty t (.u (.c (.optr k j off))) (.u (.c .nils))=evStore ty t (.u (.c (.optr k j off))) (.u (.c .nils)):=(rfl)
theorem evStoreH_agg (t k j off:Nat) (l:List AC):evStoreH ty t (.u (.c (.optr k j off))) (.u (.agg l))=evStore ty t (.u (.c (.optr k j off))) (.u (.agg l)):=(rfl)
theorem kHs_o (t k j off kk:Nat) (x:D):kHs ty t k j off kk (some (.deep x))= .lab kk (kHs2 ty t k j off kk x):=(rfl)
theorem kHs2_o (t k j off kk:Nat) (x y:D):kHs2 ty t k j off kk x (some (.owned y))=kHs3 k j off kk x y (ty t):=(rfl)
theorem kHs3_s (k j off kk:Nat) (x y:D) (i:TI):kHs3 k j off kk x y (some i)= .ret ⟨i.size=1∧off=0∧j<x.len,default,[.lab k (.deep (x.setAt j 0 [y])),.lab kk .dead]⟩:=(rfl)
def kSto2 (t:Nat) (a v:AV):Rd Out:=evStoreH ty t a v
def kSto (t:Nat) (v:Operand) (a:AV):Rd Out:=opd v (kSto2 ty t a)
theorem evOp_store (t:Nat) (a v:Operand):evOp ty tb true ⟨d,.store t a v,T,p,af,g⟩=opd a (kSto ty t v):=rfl
def kNil (v:AV):Rd Out:=match v with
 | .u (.c (.ref _ _)) | .u (.c (.sptr _ _))=>okv v
 | .u (.c (.d (.pt b l)))=> .ret ⟨b=true,.c (.d (.pt b l)),[]⟩
 | _=>bad
theorem evOp_nilCheck (x:Operand):evOp ty tb lin ⟨d,.nilCheck x,T,p,af,g⟩=opd x kNil:=rfl
def kBin (op:BinOp) (t:Nat) (y:Operand) (x:AV):Rd Out:=opd y (evBin ty (isConst y) op t x)
theorem evOp_binOp (op:BinOp) (t:Nat) (x y:Operand) (u:TypeId):evOp ty tb lin ⟨d,.binOp op t x y u,T,p,af,g⟩=opd x (kBin ty op t y):=rfl
def kNeg:AV→Rd Out
 | .u (.c (.d (.int k n)))=>okv (.c (.d (.int k (k.wrap (0 - n)))))
 | _=>bad
def kNot:AV→Rd Out
 | .u (.c (.d (.bool b)))=>okv (.c (.d (.bool !b)))
 | _=>bad
theorem evOp_neg (t:Nat) (x:Operand):evOp ty tb lin ⟨d,.unOp .neg t x,T,p,af,g⟩=opd x kNeg:=by
 refine congrArg (opd x) (funext fun v=> ?_)
 rcases v with (x | l) | _ | _<;>first | rfl | (cases x<;>first | rfl | (rename_i y; cases y<;>rfl))
theorem evOp_not (t:Nat) (x:Operand):evOp ty tb lin ⟨d,.unOp .not t x,T,p,af,g⟩=opd x kNot:=by
 refine congrArg (opd x) (funext fun v=> ?_)
 rcases v with (x | l) | _ | _<;>first | rfl | (cases x<;>first | rfl | (rename_i y; cases y<;>rfl))
def kConv (t:Nat) (x:Operand):Option TI→Rd Out
 | some { desc:= .slice e,.. } =>opd x (evFromBytes ty e t)
 | some _=>opd x (evConvert ty t)
 | none=>bad
theorem evOp_convert (s t:Nat) (x:Operand):evOp ty tb lin ⟨d,.convert s t x,T,p,af,g⟩=kConv ty t x (ty s):=by
 show (match ty s with | some { desc:= .slice e,.. } =>_ | some _=>_ | none=>_)=_
 cases ty s with
 | none=>rfl
 | some i=>
  obtain ⟨_,_,_,_,d,_⟩:=i
  cases d<;>rfl
def kMf2 (f:Nat):Option (List Cap)→Rd Out
 | some cs=>okv (.c (.clo f cs))
 | none=>bad
def kMf (f:Nat) (vs:List AV):Rd Out:=kMf2 f (capsOf vs)
theorem evOp_makeFunc (f:Nat) (caps:Array Operand):evOp ty tb lin ⟨d,.makeFunc (.func f) #[] caps,T,p,af,g⟩=opds caps.toList (kMf f):=by
 show opds caps.toList _=_
 refine congrArg (opds caps.toList) (funext fun v=> ?_)
 simp only [kMf]
 cases capsOf v<;>rfl
def kMs2 (nm t:Nat) (l c:AV):Rd Out:=evMakeSlice ty lin nm t l c
def kMs (nm t:Nat) (c:Operand) (l:AV):Rd Out:=opd c (kMs2 ty lin nm t l)
theorem evOp_makeSlice (t:Nat) (l c:Operand):evOp ty tb lin ⟨d,.makeSlice t l c,T,p,af,g⟩=opd l (kMs ty lin (d.getD 0) t c):=rfl
def kSlc0 (t:Nat) (mx:Option Operand) (x:AV):Rd Out:=evSlice ty t x none none mx.isSome
def kSlcL2 (t:Nat) (mx:Option Operand) (x l:AV):Rd Out:=evSlice ty t x (some l) none mx.isSome
def kSlcL (t:Nat) (l:Operand) (mx:Option Operand) (x:AV):Rd Out:=opd l (kSlcL2 ty t mx x)
def kSlcH2 (t:Nat) (mx:Option Operand) (x h:AV):Rd Out:=evSlice ty t x none (some h) mx.isSome
def kSlcH (t:Nat) (h:Operand) (mx:Option Operand) (x:AV):Rd Out:=opd h (kSlcH2 ty t mx x)
def kSlc3 (t:Nat) (mx:Option Operand) (x l h:AV):Rd Out:=evSlice ty t x (some l) (some h) mx.isSome
def kSlc2 (t:Nat) (h:Operand) (mx:Option Operand) (x l:AV):Rd Out:=opd h (kSlc3 ty t mx x l)
def kSlc1 (t:Nat) (l h:Operand) (mx:Option Operand) (x:AV):Rd Out:=opd l (kSlc2 ty t h mx x)
theorem evOp_slice0 (t:Nat) (x:Operand) (mx:Option Operand):evOp ty tb lin ⟨d,.slice t x none none mx,T,p,af,g⟩=opd x (kSlc0 ty t mx):=rfl
theorem evOp_sliceL (t:Nat) (x l:Operand) (mx:Option Operand):evOp ty tb lin ⟨d,.slice t x (some l) none mx,T,p,af,g⟩=opd x (kSlcL ty t l mx):=rfl
theorem evOp_sliceH (t:Nat) (x h:Operand) (mx:Option Operand):evOp ty tb lin ⟨d,.slice t x none (some h) mx,T,p,af,g⟩=opd x (kSlcH ty t h mx):=rfl
theorem evOp_slice (t:Nat) (x l h:Operand) (mx:Option Operand):evOp ty tb lin ⟨d,.slice t x (some l) (some h) mx,T,p,af,g⟩=opd x (kSlc1 ty t l h mx):=rfl
theorem evOp_fieldAddr (s:Nat) (x:Operand) (f:Nat):evOp ty tb lin ⟨d,.fieldAddr s x f,T,p,af,g⟩=opd x (evFieldAddr ty s f):=rfl
theorem evOp_field (s:Nat) (x:Operand) (f:Nat):evOp ty tb lin ⟨d,.field s x f,T,p,af,g⟩=opd x (evField ty s f):=rfl
def kIxa (t:Nat) (i:Operand) (x:AV):Rd Out:=opd i (evIndexAddr ty t x)
theorem evOp_indexAddr (t:Nat) (x i:Operand):evOp ty tb lin ⟨d,.indexAddr t x i,T,p,af,g⟩=opd x (kIxa ty t i):=rfl
def kIdx (t:Nat) (i:Operand) (x:AV):Rd Out:=opd i (evIndex ty t x)
theorem evOp_index (t:Nat) (x i:Operand):evOp ty tb lin ⟨d,.index t x i,T,p,af,g⟩=opd x (kIdx ty t i):=rfl
def kExt (i:Nat):AV→Rd Out
 | .tup l=> .ret ⟨i<l.length,.u (l.getD i default),[]⟩
 | _=>bad
theorem evOp_extract (x:Operand) (i:Nat):evOp ty tb lin ⟨d,.extract x i,T,p,af,g⟩=opd x (kExt i):=by
 refine congrArg (opd x) (funext fun v=> ?_)
 cases v<;>rfl
theorem evOp_len (x:Operand) (t:TypeId):evOp ty tb lin ⟨d,.call ⟨.builtin .len, #[x], #[t]⟩,T,p,af,g⟩=opd x (evLen ty t):=rfl
def kAp2 (nm t:Nat) (s x:AV):Rd Out:=evAppend ty lin nm t s x
def kAp (nm t:Nat) (x:Operand) (s:AV):Rd Out:=opd x (kAp2 ty lin nm t s)
def kAp0 (nm t:Nat) (s x:Operand):Option TI→Rd Out
 | some { desc:= .slice _,.. } =>opd s (kAp ty lin nm t x)
 | _=>bad
theorem evOp_append (s x : Operand) (t u : TypeId) : evOp ty tb lin ⟨d, .call ⟨.builtin .append, #[s, x], #[t, u]⟩, T, p, af, g⟩ = kAp0 ty lin (d.getD 0) t s x (ty u) := by
  show (match ty u with | some { desc := .slice _, .. } => _ | _ => _) = _
  cases ty u with
  | none => rfl
  | some ti => obtain ⟨_, _, _, _, d, _⟩ := ti
               cases d <;> rfl
def kMm1 (kk:Nat):Rd Out:= .ret ⟨True,.c (.own kk),[.lab kk (.set (.keys (D.ofList 1 [])))]⟩
def kMm1t (kk:Nat):Rd Out:= .ret ⟨True,.c (.own kk),[.lab kk (.set (.tab []))]⟩
def kMm2 (nm:Nat):Bool→Option TI→Rd Out
 | true,some { desc:= .string,.. } =>newLab nm kMm1
 | true,some { desc:= .int .i64,.. } =>newLab nm kMm1t
 | _,_=>bad
def kMm (nm:Nat):Option TI→Rd Out
 | some { desc:= .map k _,.. } =>kMm2 nm lin (ty k)
 | _=>bad
theorem evOp_makeMap (t:Nat):evOp ty tb lin ⟨d,.makeMap t none,T,p,af,g⟩=kMm ty lin (d.getD 0) (ty t):=by
 show evMakeMap ty lin (d.getD 0) t=_
 unfold evMakeMap kMm
 cases ty t with
 | none=>cases lin<;>rfl
 | some ti=>
  obtain ⟨_,_,_,_,d,_⟩:=ti
  cases d<;>first | (cases lin<;>rfl; done) | skip
  rename_i k e
  cases lin with
  | false=>rfl
  | true=>
   show (match ty k with | some { desc:= .string,.. } =>_ | some { desc:= .int .i64,.. } =>_ | _=>_)=kMm2 _ true (ty k)
   cases ty k with
   | none=>rfl
   | some ti=>obtain ⟨_,_,_,_,d,_⟩:=ti; cases d<;>first | rfl | (rename_i k; cases k<;>rfl)
def kLkT2 (n:Int):Option (Nat×Nat×Nat×Nat)→Rd Out
 | some (b,off,m,s)=> .ret ⟨0≤n,.c (.bsl b off m s),[]⟩
 | none=>bad
def kLkT (n:Int):Option Lab→Rd Out
 | some (.set (.tab l))=>kLkT2 n (lk l n.toNat)
 | _=>bad
theorem kLkT_s (n:Int) (l:List (Nat×Nat×Nat×Nat×Nat)):kLkT n (some (.set (.tab l)))=kLkT2 n (lk l n.toNat):=(rfl)
def kLkI (kk:Nat) (n:Int):Option TI→Rd Out
 | some { desc:= .int .i64,.. } => .lab kk (kLkT n)
 | _=>bad
theorem evLookup_i (t kk:Nat) (n:Int):evLookup ty t (.u (.c (.own kk))) (.u (.c (.d (.int .i64 n))))=match ty t with
 | some { desc:= .map q _,.. } =>kLkI kk n (ty q)
 | _=>bad:=by
 unfold evLookup
 cases ty t with
 | none=>rfl
 | some ti=>
  obtain ⟨_,_,_,_,d,_⟩:=ti
  cases d<;>rfl
def kLkL (s:ByteArray):Option Lab→Rd Out
 | some (.set (.keys x))=> .ret ⟨True,.c (.d (.bool (hasD x s))),[]⟩
 | _=>bad
theorem kLkL_s (s:ByteArray) (x:D):kLkL s (some (.set (.keys x)))= .ret ⟨True,.c (.d (.bool (hasD x s))),[]⟩:=(rfl)
def kLk (kk:Nat) (s:ByteArray):Option TI→Option TI→Rd Out
 | some { desc:= .string,.. },some { desc:= .bool,zero:=[.bool false],agg:=false,.. } => .lab kk (kLkL s)
 | _,_=>bad
theorem evLookup_k (t kk:Nat) (s:ByteArray):evLookup ty t (.u (.c (.own kk))) (.u (.c (.d (.str s))))=match ty t with
 | some { desc:= .map q e,.. } =>kLk kk s (ty q) (ty e)
 | _=>bad:=by
 unfold evLookup
 cases ty t with
 | none=>rfl
 | some ti=>
  obtain ⟨_,_,_,_,d,_⟩:=ti
  cases d<;>rfl
def kLk2 (t:Nat) (k:Operand) (x:AV):Rd Out:=opd k (evLookup ty t x)
theorem evOp_lookup (t:Nat) (x k:Operand):evOp ty tb lin ⟨d,.lookup t x k false,T,p,af,g⟩=opd x (kLk2 ty t k):=rfl
def kMu1 (kk:Nat) (s:ByteArray) (b:Bool):Option Lab→Rd Out
 | some (.set (.keys x))=> .ret ⟨b=true,default,[.lab kk (.set (.keys (D.cat x (D.ofList 1 [[.str s]]))))]⟩
 | _=>bad
theorem kMu1_s (kk:Nat) (s:ByteArray) (b:Bool) (x:D):kMu1 kk s b (some (.set (.keys x)))= .ret ⟨b=true,default,[.lab kk (.set (.keys (D.cat x (D.ofList 1 [[.str s]]))))]⟩:=(rfl)
def kMu (kk:Nat) (s:ByteArray) (b:Bool):Option TI→Rd Out
 | some { desc:= .string,.. } => .lab kk (kMu1 kk s b)
 | _=>bad
theorem evMapUpdate_k (t kk:Nat) (s:ByteArray) (b:Bool):evMapUpdate ty t (.u (.c (.own kk))) (.u (.c (.d (.str s)))) (.u (.c (.d (.bool b))))=match ty t with
 | some { desc:= .map q _,.. } =>kMu kk s b (ty q)
 | _=>bad:=by
 unfold evMapUpdate
 cases ty t with
 | none=>rfl
 | some ti=>
  obtain ⟨_,_,_,_,d,_⟩:=ti
  cases d<;>rfl
def kMuT1 (kk:Nat) (n:Int) (b off m s:Nat):Option Lab→Rd Out
 | some (.set (.tab l))=> .ret ⟨0≤n∧(lk l n.toNat).isNone=true,default,[.lab kk (.set (.tab ((n.toNat,b,off,m,s)::l)))]⟩
 | _=>bad
theorem kMuT1_s (kk:Nat) (n:Int) (b off m s:Nat) (l:List (Nat×Nat×Nat×Nat×Nat)):kMuT1 kk n b off m s (some (.set (.tab l)))= .ret ⟨0≤n∧(lk l n.toNat).isNone=true,default,[.lab kk (.set (.tab ((n.toNat,b,off,m,s)::l)))]⟩:=(rfl)
def kMuT (kk:Nat) (n:Int) (b off m s:Nat):Option TI→Rd Out
 | some { desc:= .int .i64,.. } => .lab kk (kMuT1 kk n b off m s)
 | _=>bad
theorem evMapUpdate_i (t kk:Nat) (n:Int) (b off m s:Nat):evMapUpdate ty t (.u (.c (.own kk))) (.u (.c (.d (.int .i64 n)))) (.u (.c (.bsl b off m s)))=match ty t with
 | some { desc:= .map q _,.. } =>kMuT kk n b off m s (ty q)
 | _=>bad:=by
 unfold evMapUpdate
 cases ty t with
 | none=>rfl
 | some ti=>
  obtain ⟨_,_,_,_,d,_⟩:=ti
  cases d<;>rfl
def kMu4 (t:Nat) (x k v:AV):Rd Out:=evMapUpdate ty t x k v
def kMu3 (t:Nat) (v:Operand) (x k:AV):Rd Out:=opd v (kMu4 ty t x k)
def kMu2 (t:Nat) (k v:Operand) (x:AV):Rd Out:=opd k (kMu3 ty t v x)
theorem evOp_mapUpdate (t:Nat) (x k v:Operand):evOp ty tb true ⟨d,.mapUpdate t x k v,T,p,af,g⟩=opd x (kMu2 ty t k v):=rfl
theorem evOp_insert (t:Nat) (x k v:Operand):evOp ty tb true ⟨d,.insert t x k v,T,p,af,g⟩=opd x (kMu2 ty t k v):=rfl
theorem evOp_toArr (t:Nat) (x:Operand):evOp ty tb lin ⟨d,.sliceToArrayPointer t x,T,p,af,g⟩=opd x (evToArr ty t):=rfl
theorem evOp_max (args:Array Operand) (ts:Array TypeId):evOp ty tb lin ⟨d,.call ⟨.builtin .max,args,ts⟩,T,p,af,g⟩=opds args.toList (evMinMax true):=rfl
theorem evOp_min (args:Array Operand) (ts:Array TypeId):evOp ty tb lin ⟨d,.call ⟨.builtin .min,args,ts⟩,T,p,af,g⟩=opds args.toList (evMinMax false):=rfl
def kCall2 (nm f:Nat) (caps:List Cap) (vs:List AV):Rd Out:=evCallF tb lin nm f caps vs
def kCall (nm:Nat) (args:List Operand):AV→Rd Out
 | .u (.c (.clo f caps))=>opds args (kCall2 tb lin nm f caps)
 | .u (.c (.d (.fn f)))=>opds args (kCall2 tb lin nm f [])
 | _=>bad
theorem evOp_call (f:Operand) (args:Array Operand) (ts:Array TypeId):evOp ty tb lin ⟨d,.call ⟨.value f,args,ts⟩,T,p,af,g⟩=opd f (kCall tb lin (d.getD 0) args.toList):=by
 show opd f _=_
 refine congrArg (opd f) (funext fun v=> ?_)
 rcases v with (x | l) | _ | _<;>first | rfl | (cases x<;>first | rfl | (rename_i y; cases y<;>rfl))
def kG (o:Oper) (want:Bool):AV→Rd Out
 | .u (.c (.d (.bool b)))=>underG (b == want) o.op (evOp ty tb false o)
 | .cnd q (.c (.d (.bool b)))=>underG (q && (b == want)) o.op (evOp ty tb false o)
 | _=>bad
def kG0 (o:Oper) (want:Bool):Option Nat→Rd Out
 | none=>bad
 | some t=> .slot t (kG ty tb o want)
theorem evGuarded_none (ds:List (Option Nat)) (op:Op):evGuarded ty tb ds ⟨d,op,T,p,af,none⟩=evOp ty tb true ⟨d,op,T,p,af,none⟩:=rfl
theorem evGuarded_some (ds:List (Option Nat)) (op:Op) (j:Nat) (want:Bool):evGuarded ty tb ds ⟨d,op,T,p,af,some (j,want)⟩=kG0 ty tb ⟨d,op,T,p,af,some (j,want)⟩ want (nthD ds j):=by
 show (match nthD ds j with | none=>_ | some t=>_)=_
 cases nthD ds j with
 | none=>rfl
 | some t=>
  refine congrArg (Rd.slot t) (funext fun v=> ?_)
  rcases v with (x | l) | _ | ⟨q,(x | l)⟩<;>first | rfl | (cases x<;>first | rfl | (rename_i y; cases y<;>rfl))
end
def kPg3 (c:Bool) (p x y:AV):Rd Out:=evPickC c p x y
def kPg2 (c:Bool) (y:Operand) (p x:AV):Rd Out:=opd y (kPg3 c p x)
def kPg1 (c:Bool) (x y:Operand) (p:AV):Rd Out:=opd x (kPg2 c y p)
theorem underG_pick (c:Bool) (p x y:Operand) (r:Rd Out):underG c (.pick p x y) r=opd p (kPg1 c x y):=rfl
theorem underG_move (c:Bool) (x:Operand) (r:Rd Out):underG c (.move x) r=underC c r:=rfl
theorem underG_assign (c:Bool) (x:Operand) (r:Rd Out):underG c (.assign x) r=underC c r:=rfl
theorem underG_build (c:Bool) (t:TypeId) (ps:Array (Nat×Operand)) (r:Rd Out):underG c (.build t ps) r=underC c r:=rfl
theorem underG_buildSlice (c:Bool) (t n:Nat) (ps:Array (Nat×Operand)) (r:Rd Out):underG c (.buildSlice t n ps) r=underC c r:=rfl
theorem underG_load (c:Bool) (t:TypeId) (x:Operand) (r:Rd Out):underG c (.load t x) r=underC c r:=rfl
theorem underG_nil (c:Bool) (x:Operand) (r:Rd Out):underG c (.nilCheck x) r=underC c r:=rfl
theorem underG_bin (c:Bool) (o:BinOp) (t u:TypeId) (x y:Operand) (r:Rd Out):underG c (.binOp o t x y u) r=underC c r:=rfl
theorem underG_un (c:Bool) (o:UnOp) (t:TypeId) (x:Operand) (r:Rd Out):underG c (.unOp o t x) r=underC c r:=rfl
theorem underG_conv (c:Bool) (s t:TypeId) (x:Operand) (r:Rd Out):underG c (.convert s t x) r=underC c r:=rfl
theorem underG_slice (c:Bool) (t:TypeId) (x:Operand) (a b d:Option Operand) (r:Rd Out):underG c (.slice t x a b d) r=underC c r:=rfl
theorem underG_fieldAddr (c:Bool) (t:TypeId) (x:Operand) (i:Nat) (r:Rd Out):underG c (.fieldAddr t x i) r=underC c r:=rfl
theorem underG_field (c:Bool) (t:TypeId) (x:Operand) (i:Nat) (r:Rd Out):underG c (.field t x i) r=underC c r:=rfl
theorem underG_indexAddr (c:Bool) (t:TypeId) (x i:Operand) (r:Rd Out):underG c (.indexAddr t x i) r=underC c r:=rfl
theorem underG_index (c:Bool) (t:TypeId) (x i:Operand) (r:Rd Out):underG c (.index t x i) r=underC c r:=rfl
theorem underG_lookup (c:Bool) (t:TypeId) (x k:Operand) (b:Bool) (r:Rd Out):underG c (.lookup t x k b) r=underC c r:=rfl
theorem underG_toArr (c:Bool) (t:TypeId) (x:Operand) (r:Rd Out):underG c (.sliceToArrayPointer t x) r=underC c r:=rfl
theorem underG_extract (c:Bool) (x:Operand) (i:Nat) (r:Rd Out):underG c (.extract x i) r=underC c r:=rfl
theorem underG_call (c:Bool) (k:Call) (r:Rd Out):underG c (.call k) r=underC c r:=rfl
theorem underG_makeFunc (c:Bool) (f:Fn) (a b:Array Operand) (r:Rd Out):underG c (.makeFunc f a b) r=underC c r:=rfl
attribute [go_sem] kPg3 kPg2 kPg1 underG_pick underG_move underG_assign underG_build underG_buildSlice underG_load underG_nil underG_bin underG_un underG_conv underG_slice underG_fieldAddr underG_field underG_indexAddr underG_index underG_extract underG_call underG_makeFunc evPickC
def kU (c:Bool) (k:Option Lab→Rd Out) (v:Option Lab):Rd Out:=underC c (k v)
theorem underC_lab (c:Bool) (l:Nat) (k:Option Lab→Rd Out):underC c (.lab l k)= .lab l (kU c k):=rfl
def kUB (c:Bool) (k:Option (List AC)→Rd Out) (v:Option (List AC)):Rd Out:=underC c (k v)
theorem underC_box (c:Bool) (l:Nat) (k:Option (List AC)→Rd Out):underC c (.box l k)= .box l (kUB c k):=rfl
def underO (c:Bool):List Wr→AV→Prop→Rd Out
 | [],.u x,p=> .ret ⟨c=true→p,.cnd c x,[]⟩
 | _,_,_=>bad
theorem underC_ret (c:Bool) (p:Prop) (v:AV) (ws:List Wr):underC c (.ret ⟨p,v,ws⟩)=underO c ws v p:=by
 cases ws<;>cases v<;>rfl
theorem run_slot (t:Nat) (k:AV→Rd Out) (st:St):(Rd.slot t k).run st=(k ((lk st.sl t).getD default)).run st:=rfl
theorem run_lab (t:Nat) (k:Option Lab→Rd Out) (st:St):(Rd.lab t k).run st=(k (lk st.lb t)).run st:=rfl
theorem run_box (t:Nat) (k:Option (List AC)→Rd Out) (st:St):(Rd.box t k).run st=(k (lk st.bx t)).run st:=rfl
theorem run_ret (a:Out) (st:St):(Rd.ret a).run st=a:=rfl
theorem run_opd_tmp (t:Nat) (f:AV→Rd Out) (st:St):(opd (.tmp t) f).run st=(f ((lk st.sl t).getD default)).run st:=rfl
theorem run_opd_const (v:Value) (f:AV→Rd Out) (st:St):(opd (.const v) f).run st=(f (ofValue v)).run st:=rfl
theorem run_opd_glob (g:Nat) (f:AV→Rd Out) (st:St):(opd (.global g) f).run st=(f (.c (.glob g 0))).run st:=rfl
theorem run_opd_func (g:Nat) (f:AV→Rd Out) (st:St):(opd (.func g) f).run st=(f (.c (.clo g []))).run st:=rfl
theorem kD_o (f:D→Rd Out) (x:D):kD f (some (.owned x))=f x:=(rfl)
theorem kD_s (f:D→Rd Out) (x:D):kD f (some (.shared x))=f x:=(rfl)
theorem kCap_s (f:List D→Rd Out) (cs:List AC):kCap f (some cs)=toDs cs f:=(rfl)
theorem kBsl_s (off n s:Nat) (f:Arg→Rd Out) (cs:List AC):kBsl off n s f (some cs)=bslD off n s cs (kArgC f):=(rfl)
theorem kNewN_n (n nm:Nat) (f:Nat→Rd Out):kNewN n nm f none=f nm:=(rfl)
theorem kNewN_s (n nm:Nat) (f:Nat→Rd Out) (l:Lab):kNewN n nm f (some l)=newLabN n (nm+100000) f:=(rfl)
theorem kNewBN_n (n nm:Nat) (f:Nat→Rd Out):kNewBN n nm f none=f nm:=(rfl)
theorem kNewBN_s (n nm:Nat) (f:Nat→Rd Out) (l:List AC):kNewBN n nm f (some l)=newBoxN n (nm+100000) f:=(rfl)
theorem kSh_o (k:Nat) (r:List AC) (f:List Wr→Rd Out) (x:D):kSh k r f (some (.owned x))=shareLabs r (kSh2 k x f):=(rfl)
theorem kSh_s (k:Nat) (r:List AC) (f:List Wr→Rd Out) (x:D):kSh k r f (some (.shared x))=shareLabs r f:=(rfl)
theorem kLoadB_s (i:TI) (off:Nat) (cs:List AC):kLoadB i off (some cs)=loadD i off cs:=(rfl)
theorem kLoadL_o (i:TI) (j off:Nat) (x:D):kLoadL i j off (some (.owned x))=loadD i off ((x.nth j).map .d):=(rfl)
theorem kLoadL_s (i:TI) (j off:Nat) (x:D):kLoadL i j off (some (.shared x))=loadD i off ((x.nth j).map .d):=(rfl)
theorem kFa2_o (k i o:Nat) (x:D):kFa2 k i o (some (.owned x))=okv (.c (.optr k i o)):=(rfl)
theorem kFa2_s (k i o:Nat) (x:D):kFa2 k i o (some (.shared x))=okv (.c (.optr k i o)):=(rfl)
theorem kApp1_o (e:TI) (t nm j:Nat) (y:AC) (d z:D):kApp1 e t nm j y d (some (.owned z))=newLab nm (kApp2 e j y z d):=(rfl)
theorem kApp1_d (e:TI) (t nm j:Nat) (y:AC) (d z:D):kApp1 e t nm j y d (some (.deep z))=newLab nm (kApp4 e t j z d):=(rfl)
theorem kC2b_t (sp:FSpec) (lin:Bool) (nm:Nat) (caps:List Cap) (args:List AV) (as:List Arg):kC2b sp lin nm caps args as true=shareLabs (allCells args) (kC3 sp lin nm caps as):=(rfl)
theorem kC2b_f (sp:FSpec) (lin:Bool) (nm:Nat) (caps:List Cap) (args:List AV) (as:List Arg):kC2b sp lin nm caps args as false=callOut sp lin nm caps as []:=(rfl)
theorem kC0_s (lin:Bool) (nm:Nat) (caps:List Cap) (args:List AV) (sp:FSpec):kC0 lin nm caps args (some sp)=toArgs args (kC1 sp lin nm caps args):=(rfl)
attribute [go_sem] run_opd_glob shareLabs_sptr shareLabs_ref kCons kOpds opds_nil opds_cons kD_o kD_s toD_d toD_sptr kBs3 bslD_k kBsl_s toArg_sptr toArg_bsl kSlA toD_nils toD_clo toD_own kDs toDs_nil toDs_cons kCap_s capDs_ref capDs_sptr kCaps capsDs_nil capsDs_cons kArgC kArgA kArgF toArg_clo toArg_d toArg_nils toArg_own toArg_agg
 kArgs toArgs_nil toArgs_cons kNewN_n kNewN_s newLabN_k newLab_k kNewBN_n kNewBN_s newBoxN_k newBox_k kSh2 kSh_o kSh_s shareLabs_nil shareLabs_own shareLabs_d shareLabs_nils shareLabs_clo kNewSl newSl_true newSl_false kLoadB_s kLoadL_o kLoadL_s kLoad1 kLoad evLoad_k
 kStB kStL2 kStL kSt1 kSt evStore_k kFa2_o kFa2_s kFa1 kFa evFieldAddr_k kIx_o kIx_s kIx_d evIndexAddr_own evIndexAddr_optr kIxo_o kIxo_s kBs2 kBs1 kBsR kBsB hasRef_nil hasRef_ref hasRef_d hasRef_nils hasRef_own hasRef_sptr hasRef_clo kBs evBuildSlice_k kSl2 kSl1 kSlS evSlice_k kLen kLenL_o kLenL_s kLenL_d kLen1 evLen_k kApp0 kApp1_o kApp1_d kApp4 kApp2 kApp3 evApp_clp evApp_nils evApp_own kAppd evAppend_k
 kRcD kRcO kRc resCells_nil resCells_d resCells_own resCells_own' kRauC kRauA resAU_c resAU_agg kRas2 kRas resAUs_nil resAUs_cons kCo callOut_k kC3 kC2b_t kC2b_f kC2 kC1 kC0_s evCallF_k
 evOp_move evOp_assign kPick2 kPick1 evOp_pick kAlloc kAlloc0 evOp_alloc kBox2 kBox evOp_box kBuild evOp_build kBuildS evOp_buildSlice evOp_load kSto2 kSto evOp_store kNil evOp_nilCheck kBin evOp_binOp kNeg kNot evOp_neg evOp_not
 kConv evOp_convert kMf2 kMf evOp_makeFunc kMs2 kMs evOp_makeSlice kSlc0 kSlcL2 kSlcL kSlcH2 kSlcH kSlc3 kSlc2 kSlc1 evOp_slice0 evOp_sliceL evOp_sliceH evOp_slice evOp_fieldAddr evOp_field kIxa evOp_indexAddr kIdx evOp_index kExt evOp_extract
 toDsN_nils toDsN_nil toDsN_d toDsN_own toDsN_sptr toDsN_cons evLoadH_optr evLoadH_ref evLoadH_sptr evLoadH_d evLoadH_glob kLh_o kLh_s kLh_d kLh2_t kLh3 innSz evStoreH_own evStoreH_ref evStoreH_d evStoreH_nils evStoreH_agg kHs_o kHs2_o kHs3_s
 kMm1 kMm1t kMm2 kMm evOp_makeMap kLkT2 kLkT_s kLkI evLookup_i kMuT1_s kMuT evMapUpdate_i kLkL_s kLk evLookup_k kLk2 evOp_lookup kMu1_s kMu evMapUpdate_k kMu4 kMu3 kMu2 evOp_mapUpdate evOp_insert underG_lookup evOp_toArr underG_toArr evOp_len kAp2 kAp kAp0 evOp_append evOp_max evOp_min kCall2 kCall evOp_call kG kG0 evGuarded_none evGuarded_some kU underC_lab kUB underC_box underO underC_ret run_slot run_lab run_box run_ret run_opd_tmp run_opd_const run_opd_func
end Go.Abs
set_option linter.unusedVariables false
set_option linter.unusedSimpArgs false
namespace Go.Abs
def underV (c:Bool) (v:AV) (f:AV→Rd Out):Rd Out:=
 match v with
 | .cnd q x=>addObl (c=true→q=true) (underC c (f (.u x)))
 | v=>underC c (f v)
theorem run_underC_tmp (c:Bool) (t:Nat) (f:AV→Rd Out) (st:St):(underC c (opd (.tmp t) f)).run st=(underV c ((lk st.sl t).getD default) f).run st:=by
 simp only [opd,underC,Rd.run]
 cases (lk st.sl t).getD default<;>rfl
theorem run_underC_const (c:Bool) (v:Value) (f:AV→Rd Out) (st:St):(underC c (opd (.const v) f)).run st=(underC c (f (ofValue v))).run st:=rfl
theorem run_underC_glob (c:Bool) (g:Nat) (f:AV→Rd Out) (st:St):(underC c (opd (.global g) f)).run st=(underC c (f (.c (.glob g 0)))).run st:=rfl
theorem run_underC_func (c:Bool) (g:Nat) (f:AV→Rd Out) (st:St):(underC c (opd (.func g) f)).run st=(underC c (f (.c (.clo g [])))).run st:=rfl
theorem underV_u (c:Bool) (x:AU) (f:AV→Rd Out):underV c (.u x) f=underC c (f (.u x)):=rfl
theorem underV_tup (c:Bool) (x:List AU) (f:AV→Rd Out):underV c (.tup x) f=underC c (f (.tup x)):=rfl
theorem underV_cnd (c q:Bool) (x:AU) (f:AV→Rd Out):underV c (.cnd q x) f=addObl (c=true→q=true) (underC c (f (.u x))):=rfl
theorem log_opd_tmp (t:Nat) (f:AV→Rd Out) (st:St):(opd (.tmp t) f).log st= .slot t::(f ((lk st.sl t).getD default)).log st:=rfl
theorem log_opd_const (v:Value) (f:AV→Rd Out) (st:St):(opd (.const v) f).log st=(f (ofValue v)).log st:=rfl
theorem log_opd_glob (g:Nat) (f:AV→Rd Out) (st:St):(opd (.global g) f).log st=(f (.c (.glob g 0))).log st:=rfl
theorem log_underC_glob (c:Bool) (g:Nat) (f:AV→Rd Out) (st:St):(underC c (opd (.global g) f)).log st=(underC c (f (.c (.glob g 0)))).log st:=rfl
theorem log_opd_func (g:Nat) (f:AV→Rd Out) (st:St):(opd (.func g) f).log st=(f (.c (.clo g []))).log st:=rfl
theorem log_addObl (p:Prop) (r:Rd Out) (st:St):(addObl p r).log st=r.log st:=by
 induction r with
 | ret o=>rfl
 | slot t k ih=>simp only [addObl,Rd.log]; rw [ih]
 | box b k ih=>simp only [addObl,Rd.log]; rw [ih]
 | lab l k ih=>simp only [addObl,Rd.log]; rw [ih]
theorem log_underC_tmp (c:Bool) (t:Nat) (f:AV→Rd Out) (st:St):(underC c (opd (.tmp t) f)).log st= .slot t::(underV c ((lk st.sl t).getD default) f).log st:=by
 simp only [opd,underC,Rd.log]
 cases (lk st.sl t).getD default<;>rfl
theorem log_underC_const (c:Bool) (v:Value) (f:AV→Rd Out) (st:St):(underC c (opd (.const v) f)).log st=(underC c (f (ofValue v))).log st:=rfl
theorem log_underC_func (c:Bool) (g:Nat) (f:AV→Rd Out) (st:St):(underC c (opd (.func g) f)).log st=(underC c (f (.c (.clo g [])))).log st:=rfl
theorem getD_some {α:Type} (x d:α):(some x).getD d=x:=rfl
theorem getD_none {α:Type} (d:α):(none:Option α).getD d=d:=rfl
def lkc {α:Type}:Bool→α→List (Nat×α)→Nat→Option α
 | true,v,_,_=>some v
 | false,_,r,k=>lk r k
theorem lkc_t {α:Type} (v:α) (r:List (Nat×α)) (k:Nat):lkc true v r k=some v:=(rfl)
theorem lkc_f {α:Type} (v:α) (r:List (Nat×α)) (k:Nat):lkc false v r k=lk r k:=(rfl)
theorem lk_nil {α:Type} (k:Nat):lk ([]:List (Nat×α)) k=none:=(rfl)
theorem lk_cons {α:Type} (t k:Nat) (v:α) (r:List (Nat×α)):lk ((t,v)::r) k=lkc (t == k) v r k:=by
 rw [lk]
 by_cases h:t=k
 ·subst h; simp [lkc]
 ·rw [if_neg h,beq_false_of_ne h]; rfl
attribute [go_sem] run_underC_glob foots writes Wr.comp Rd.log log_opd_glob log_underC_glob log_opd_tmp log_opd_const log_opd_func log_addObl log_underC_tmp log_underC_const log_underC_func vc evSeq stepIdx okv bad valOf lk_nil lk_cons lkc_t lkc_f St.begin argSl argAV St.done putAll St.slot ofValue zAC run_addObl run_underC_tmp run_underC_const run_underC_func
 underV_u underV_tup underV_cnd evPick unstrip evBin binD AV.c AV.agg Wr.put AU.cells AU.solid AC.solid
 fin retAll retOne ausOk auOk cellOk cellsOk ownAll ownLabs shAll shLabs labOf RV.cells D.scalar loadD popK nthD dstOk getD_some getD_none
 splice loadP loadG glb glbS plainD plainDs plainDsN fieldOff evField elemTI evIndexAddr evIndex evToArr firsts fillParts fieldPlace' evBuild reps chunks evMakeSlice bound evCut evMinMax notLab
 resAV allCells noCaps evConvert capsOf eqCells strBin errBin isConst nthB_ofList bytesOf evBytes evFromBytes
end Go.Abs
set_option linter.unusedVariables false
set_option linter.unusedSimpArgs false
namespace Go.Abs
def mCap (bs:List (Nat×Nat)):Cap→Option Cap
 | .ref b off=>(lk bs b).map fun b'=> .ref b' off
 | .sptr l off=>some (.sptr l off)
def mCaps (bs:List (Nat×Nat)):List Cap→Option (List Cap)
 | []=>some []
 | x::r=>match mCap bs x,mCaps bs r with
  | some y,some s=>some (y::s)
  | _,_=>none
def mAC (bs ks:List (Nat×Nat)) (lb:Nat→Option Lab):AC→Option AC
 | .undef=>some .undef
 | .d x=>some (.d x)
 | .nils=>some .nils
 | .own k=>match lk ks k with
  | some k'=>some (.own k')
  | none=>match lb k with
   | some (.shared x)=>some (.d x)
   | some .dead=>some .undef
   | _=>none
 | .ref b off=>(lk bs b).map fun b'=> .ref b' off
 | .optr k i off=>match lk ks k with
  | some k'=>some (.optr k' i off)
  | none=>match lb k with
   | some (.shared x)=>some (.sptr (x.nth i) off)
   | some .dead=>some .undef
   | _=>none
 | .sptr l off=>some (.sptr l off)
 | .clo f caps=>(mCaps bs caps).map fun c=> .clo f c
 | .yld l=>some (.yld l)
 | .clp x=>some (.clp x)
 | .glob g off=>some (.glob g off)
 | .bsl b off n s=>(lk bs b).map fun b'=> .bsl b' off n s
 | .bnd f l=>some (.bnd f l)
def mACs (bs ks:List (Nat×Nat)) (lb:Nat→Option Lab):List AC→Option (List AC)
 | []=>some []
 | x::r=>match mAC bs ks lb x,mACs bs ks lb r with
  | some y,some s=>some (y::s)
  | _,_=>none
def mAU (bs ks:List (Nat×Nat)) (lb:Nat→Option Lab):AU→Option AU
 | .c x=>(mAC bs ks lb x).map .c
 | .agg l=>(mACs bs ks lb l).map .agg
def mSl (bs ks:List (Nat×Nat)) (st:St):List Nat→Option (List (Nat×AV))
 | []=>some []
 | t::r=>match lk st.sl t,mSl bs ks st r with
  | some (.u x),some s=>match mAU bs ks (lk st.lb) x with
   | some y=>some ((t,.u y)::s)
   | none=>none
  | _,_=>none
def mBx (bs ks:List (Nat×Nat)) (st:St):List (Nat×Nat)→Option (List (Nat×List AC))
 | []=>some []
 | (b,b')::r=>match lk st.bx b,mBx bs ks st r with
  | some cs,some s=>match mACs bs ks (lk st.lb) cs with
   | some y=>some ((b',y)::s)
   | none=>none
  | _,_=>none
def mLab (ks:List (Nat×Nat)):Lab→Option Lab
 | .dead=>some .dead
 | .owned x=>some (.owned x)
 | .shared x=>some (.shared x)
 | .deep x=>some (.deep x)
 | .set (.keys x)=>some (.set (.keys x))
 | .set (.tab _)=>none
theorem mLab_eq {ks:List (Nat×Nat)} {l x:Lab} (h:mLab ks l=some x):x=l∧∀ y,l≠ .set (.tab y):=by
 rcases l with _ | _ | _ | _ | M
 ·exact ⟨(Option.some.inj h).symm,fun _ e=>by cases e⟩
 ·exact ⟨(Option.some.inj h).symm,fun _ e=>by cases e⟩
 ·exact ⟨(Option.some.inj h).symm,fun _ e=>by cases e⟩
 ·exact ⟨(Option.some.inj h).symm,fun _ e=>by cases e⟩
 ·cases M with
  | keys x=>exact ⟨(Option.some.inj h).symm,fun _ e=>by cases e⟩
  | tab l=>cases h
def mLbs (ks:List (Nat×Nat)) (st:St):List (Nat×Nat)→Option (List (Nat×Lab))
 | []=>some []
 | (k,k')::r=>match lk st.lb k,mLbs ks st r with
  | some l,some s=>match mLab ks l with
   | some l'=>some ((k',l')::s)
   | none=>none
  | _,_=>none
def mLb (st:St) (ks:List (Nat×Nat)):Option (List (Nat×Lab)):=mLbs ks st ks
def oneOne (l:List (Nat×Nat)):Prop:=(l.map (·.1)).Nodup∧(l.map (·.2)).Nodup
def mAV (bs ks:List (Nat×Nat)) (lb:Nat→Option Lab):AV→Option AV
 | .u x=>(mAU bs ks lb x).map .u
 | _=>none
def keepAll (bs ks:List (Nat×Nat)) (lb:Nat→Option Lab):List AV→Prop
 | []=>True
 | v::r=>mAV bs ks lb v=some v∧keepAll bs ks lb r
theorem keepAll_mem {bs ks:List (Nat×Nat)} {lb:Nat→Option Lab}:∀ {l:List AV},keepAll bs ks lb l→∀ v∈l,mAV bs ks lb v=some v
 | [],_,v,h=>by cases h
 | x::r,h,v,hv=>by
  rcases List.mem_cons.1 hv with rfl | hv
  ·exact h.1
  ·exact keepAll_mem h.2 v hv
def View (ts:List Nat) (bs ks:List (Nat×Nat)) (st st':St):Prop:=
 oneOne bs∧oneOne ks∧mSl bs ks st ts=some st'.sl∧mBx bs ks st bs=some st'.bx∧mLb st ks=some st'.lb
def rk (l:List (Nat×Nat)) (b:Nat):Option Nat:=lk (l.map fun p=>(p.2,p.1)) b
theorem lk_mem {α:Type} {l:List (Nat×α)} {a:Nat} {b:α} (h:lk l a=some b):(a,b)∈l:=by
 induction l with
 | nil=>cases h
 | cons p r ih=>
  obtain ⟨x,y⟩:=p
  simp only [lk] at h
  split at h
  ·rename_i e; subst e; obtain rfl:=Option.some.inj h; simp
  ·exact List.mem_cons_of_mem _ (ih h)
theorem mem_lk {α:Type} {l:List (Nat×α)} {a:Nat} {b:α} (hn:(l.map (·.1)).Nodup) (h:(a,b)∈l):lk l a=some b:=by
 induction l with
 | nil=>cases h
 | cons p r ih=>
  obtain ⟨x,y⟩:=p
  simp only [List.map_cons,List.nodup_cons] at hn
  simp only [lk]
  rcases List.mem_cons.1 h with e | h
  ·cases e; rw [if_pos rfl]
  ·have:x≠a:=by
    rintro rfl
    exact hn.1 (List.mem_map.2 ⟨_,h,rfl⟩)
   rw [if_neg this]; exact ih hn.2 h
theorem rk_iff {l:List (Nat×Nat)} (h:oneOne l) {a b:Nat}:lk l a=some b↔rk l b=some a:=by
 have hs:((l.map fun p=>(p.2,p.1)).map (·.1)).Nodup:=by simpa [List.map_map,Function.comp_def] using h.2
 refine ⟨fun e=>mem_lk hs (List.mem_map.2 ⟨_,lk_mem e,rfl⟩),fun e=> ?_⟩
 obtain ⟨p,hp,e2⟩:=List.mem_map.1 (lk_mem e)
 cases p; cases e2
 exact mem_lk h.1 hp
theorem lk_mSl {bs ks:List (Nat×Nat)} {st:St}:∀ {ts:List Nat} {s:List (Nat×AV)},mSl bs ks st ts=some s→∀ t v,lk s t=some v→∃ x y,lk st.sl t=some (.u x)∧mAU bs ks (lk st.lb) x=some y∧v= .u y
 | [],s,h,t,v,hv=>by simp only [mSl,Option.some.injEq] at h; subst h; cases hv
 | t0::r,s,h,t,v,hv=>by
  simp only [mSl] at h
  split at h
  ·rename_i x s' h1 h2
   split at h
   ·rename_i y hy
    obtain rfl:=Option.some.inj h
    simp only [lk] at hv
    split at hv
    ·rename_i e; subst e; obtain rfl:=Option.some.inj hv
     exact ⟨x,y,h1,hy,rfl⟩
    ·exact lk_mSl h2 t v hv
   ·cases h
  ·cases h
theorem lk_mBx {bs ks:List (Nat×Nat)} {st:St}:∀ {l:List (Nat×Nat)} {s:List (Nat×List AC)},mBx bs ks st l=some s→∀ b',
 (∀ cs',lk s b'=some cs'→∃ b cs,rk l b'=some b∧lk st.bx b=some cs∧mACs bs ks (lk st.lb) cs=some cs')∧(lk s b'=none→rk l b'=none)
 | [],s,h,b'=>by simp only [mBx,Option.some.injEq] at h; subst h; exact ⟨fun _ h=>(by cases h),fun _=>rfl⟩
 | (b0,b1)::r,s,h,b'=>by
  simp only [mBx] at h
  split at h
  ·rename_i cs s' h1 h2
   split at h
   ·rename_i y hy
    obtain rfl:=Option.some.inj h
    simp only [lk,rk,List.map_cons]
    split
    ·refine ⟨fun cs' e=> ?_,fun e=>(by cases e)⟩
     obtain rfl:=Option.some.inj e
     exact ⟨b0,cs,rfl,h1,hy⟩
    ·exact lk_mBx h2 b'
   ·cases h
  ·cases h
theorem lk_mLbs {ks:List (Nat×Nat)} {st:St}:∀ {l:List (Nat×Nat)} {s:List (Nat×Lab)},mLbs ks st l=some s→∀ k',
 (∀ x,lk s k'=some x→∃ k y,rk l k'=some k∧lk st.lb k=some y∧mLab ks y=some x)∧(∀ k,rk l k'=some k→∃ y x,lk st.lb k=some y∧mLab ks y=some x∧lk s k'=some x)
 | [],s,h,b'=>by simp only [mLbs,Option.some.injEq] at h; subst h; exact ⟨fun _ h=>(by cases h),fun k h=>(by cases h)⟩
 | (b0,b1)::r,s,h,b'=>by
  simp only [mLbs] at h
  split at h
  ·rename_i cs s' h1 h2
   split at h
   ·rename_i l' h3
    obtain rfl:=Option.some.inj h
    simp only [lk,rk,List.map_cons]
    split
    ·refine ⟨fun cs' e=> ?_,fun k e=> ?_⟩
     ·obtain rfl:=Option.some.inj e
      exact ⟨b0,cs,rfl,h1,h3⟩
     ·obtain rfl:=Option.some.inj e
      exact ⟨cs,l',h1,h3,rfl⟩
    ·exact lk_mLbs h2 b'
   ·cases h
  ·cases h
theorem lk_mLb {st:St} {ks:List (Nat×Nat)} {s:List (Nat×Lab)} (h:mLb st ks=some s):∀ k',
 (∀ x,lk s k'=some x→∃ k y,rk ks k'=some k∧lk st.lb k=some y∧mLab ks y=some x)∧(∀ k,rk ks k'=some k→∃ y x,lk st.lb k=some y∧mLab ks y=some x∧lk s k'=some x):=lk_mLbs h
theorem mLab_od {ks:List (Nat×Nat)} {y x:Lab} (h:mLab ks y=some x):od (some x)=od (some y):=by
 obtain ⟨rfl,_⟩:=mLab_eq h; rfl
section
variable {cx:Cx} {st st':St} {m:Mp} {a:Act} {w:World} {ts:List Nat} {bs ks:List (Nat×Nat)}
def Mp.view (m:Mp) (bs ks:List (Nat×Nat)):Mp:=⟨fun k=>(rk ks k).bind m.own,fun b=>(rk bs b).bind m.box,fun k j=>(rk ks k).bind fun q=>m.inn q j,fun k=>(rk ks k).bind m.mp⟩
theorem sof_view {B:Nat} (h:Sof cx m B):Sof cx (m.view bs ks) B:=by
 refine ⟨h.1,fun k=> ?_,fun b=> ?_,fun k j=> ?_⟩
 ·simp only [Mp.view]
  cases rk ks k with
  | none=>simp
  | some k0=>exact h.2.1 k0
 ·simp only [Mp.view]
  cases rk bs b with
  | none=>simp
  | some b0=>exact h.2.2.1 b0
 ·simp only [Mp.view]
  cases rk ks k with
  | none=>simp
  | some k0=>exact h.2.2.2 k0 j
theorem ext_view:Ext w w (Sof cx m) (Sof cx (m.view bs ks)):=⟨Nat.le_refl _,fun _ _ _=>rfl,fun _ _ h=>sof_view h⟩
theorem rcap_view (hb:oneOne bs) {x y:Cap} {v:Value} (h:mCap bs x=some y) (hr:RCap cx m w x v):RCap cx (m.view bs ks) w y v:=by
 cases x with
 | ref b off=>
  simp only [mCap,Option.map_eq_some_iff] at h
  obtain ⟨b',h1,rfl⟩:=h
  obtain ⟨B,h2,h3⟩:=hr
  exact ⟨B,by simp [Mp.view,(rk_iff hb).1 h1,h2],h3⟩
 | sptr l off=>
  obtain rfl:=Option.some.inj h
  exact Ptr.ext ext_view hr
theorem rcaps_view (hb:oneOne bs):∀ {l r:List Cap},mCaps bs l=some r→r.length=l.length∧∀ i,i<l.length→mCap bs (l.getD i (.ref 0 0))=some (r.getD i (.ref 0 0))
 | [],r,h=>by obtain rfl:=Option.some.inj h; exact ⟨rfl,fun i hi=>absurd hi (by simp)⟩
 | x::l,r,h=>by
  simp only [mCaps] at h
  split at h
  ·rename_i y s h1 h2
   obtain rfl:=Option.some.inj h
   obtain ⟨g1,g2⟩:=rcaps_view hb h2
   refine ⟨by simp [g1],fun i hi=> ?_⟩
   cases i with
   | zero=>simpa using h1
   | succ i=>simpa using g2 i (by simpa using hi)
  ·cases h
theorem rcl_view (hb:oneOne bs) (hk:oneOne ks) (hl:mLb st ks=some st'.lb) {x y:AC} {v:Value} (h:mAC bs ks (lk st.lb) x=some y) (hr:RCl cx m w (lk st.lb) x v) :
 RCl cx (m.view bs ks) w (lk st'.lb) y v:=by
 have hown:∀ k k',lk ks k=some k'→(∃ y x,lk st.lb k=some y∧mLab ks y=some x∧lk st'.lb k'=some x)∧(m.view bs ks).own k'=m.own k∧(m.view bs ks).mp k'=m.mp k:=by
  intro k k' e
  have e':=(rk_iff hk).1 e
  exact ⟨(lk_mLb hl k').2 k e',by simp [Mp.view,e'],by simp [Mp.view,e']⟩
 cases x with
 | undef=>obtain rfl:=Option.some.inj h; exact trivial
 | d x=>obtain rfl:=Option.some.inj h; exact RD.ext ext_view hr
 | nils=>obtain rfl:=Option.some.inj h; exact hr
 | own k=>
  simp only [mAC] at h
  cases e:lk ks k with
  | some k'=>
   simp only [e] at h
   obtain rfl:=Option.some.inj h
   obtain ⟨⟨L,L',f1,f2,f3⟩,e2,e3⟩:=hown k k' e
   simp only [RCl,f1] at hr
   simp only [RCl,f3]
   cases L with
   | dead=>obtain rfl:=(mLab_eq f2).1; exact hr
   | shared x=>obtain rfl:=(mLab_eq f2).1; exact ⟨hr.1,RD.ext ext_view hr.2⟩
   | owned x=>obtain rfl:=(mLab_eq f2).1; simp only [e2]; exact hr
   | deep x=>obtain rfl:=(mLab_eq f2).1; simp only [e2]; exact hr
   | set x=>obtain rfl:=(mLab_eq f2).1; simp only [e3]; exact hr
  | none=>
   simp only [e] at h
   simp only [RCl] at hr
   cases hL:lk st.lb k with
   | none=>rw [hL] at hr; exact hr.elim
   | some L=>
    rw [hL] at hr h
    cases L with
    | dead=>obtain rfl:=Option.some.inj h; exact trivial
    | shared x=>obtain rfl:=Option.some.inj h; exact RD.ext ext_view hr.2
    | owned x=>cases h
    | deep x=>cases h
    | set x=>cases h
 | ref b off=>
  simp only [mAC,Option.map_eq_some_iff] at h
  obtain ⟨b',h1,rfl⟩:=h
  obtain ⟨B,h2,h3⟩:=hr
  exact ⟨B,by simp [Mp.view,(rk_iff hb).1 h1,h2],h3⟩
 | optr k i off=>
  simp only [mAC] at h
  cases e:lk ks k with
  | some k'=>
   simp only [e] at h
   obtain rfl:=Option.some.inj h
   obtain ⟨⟨L,L',f1,f2,f3⟩,e2,e3⟩:=hown k k' e
   simp only [RCl,f1] at hr
   simp only [RCl,f3]
   cases L with
   | dead=>obtain rfl:=(mLab_eq f2).1; exact hr
   | shared x=>obtain rfl:=(mLab_eq f2).1; exact ⟨hr.1,hr.2.1,Ptr.ext ext_view hr.2.2⟩
   | owned x=>obtain rfl:=(mLab_eq f2).1; simp only [e2]; exact hr
   | deep x=>obtain rfl:=(mLab_eq f2).1; simp only [e2]; exact hr
   | set x=>exact hr.elim
  | none=>
   simp only [e] at h
   simp only [RCl] at hr
   cases hL:lk st.lb k with
   | none=>rw [hL] at hr; exact hr.elim
   | some L=>
    rw [hL] at hr h
    cases L with
    | dead=>obtain rfl:=Option.some.inj h; exact trivial
    | shared x=>obtain rfl:=Option.some.inj h; exact Ptr.ext ext_view hr.2.2
    | owned x=>cases h
    | deep x=>cases h
    | set x=>cases h
 | sptr l off=>obtain rfl:=Option.some.inj h; exact Ptr.ext ext_view hr
 | clo f caps=>
  simp only [mAC,Option.map_eq_some_iff] at h
  obtain ⟨c',h1,rfl⟩:=h
  obtain ⟨vs,rfl,hsz,hc⟩:=hr
  obtain ⟨g1,g2⟩:=rcaps_view hb h1
  refine ⟨vs,rfl,by rw [g1]; exact hsz,fun i hi=> ?_⟩
  rw [g1] at hi
  obtain ⟨u,hu,hr⟩:=hc i hi
  exact ⟨u,hu,rcap_view hb (g2 i hi) hr⟩
 | yld l=>obtain rfl:=Option.some.inj h; exact hr
 | clp x=>obtain rfl:=Option.some.inj h; exact ⟨hr.1,hr.2.1.ext ext_view,hr.2.2⟩
 | glob g off=>obtain rfl:=Option.some.inj h; exact hr
 | bsl b off n s=>
  simp only [mAC,Option.map_eq_some_iff] at h
  obtain ⟨b',h1,rfl⟩:=h
  obtain ⟨B,cap,h2,h3,h4⟩:=hr
  exact ⟨B,cap,by simp [Mp.view,(rk_iff hb).1 h1,h2],h3,h4⟩
 | bnd f l=>
  obtain rfl:=Option.some.inj h
  obtain ⟨us,rfl,hsz,hc⟩:=hr
  refine ⟨us,rfl,hsz,fun i hi=> ?_⟩
  obtain ⟨u,hu,hr⟩:=hc i hi
  exact ⟨u,hu,hr.ext ext_view⟩
theorem mACs_get {lb:Nat→Option Lab}:∀ {l r:List AC},mACs bs ks lb l=some r→r.length=l.length∧∀ i,i<l.length→mAC bs ks lb (l.getD i .undef)=some (r.getD i .undef)
 | [],r,h=>by obtain rfl:=Option.some.inj h; exact ⟨rfl,fun i hi=>absurd hi (by simp)⟩
 | x::l,r,h=>by
  simp only [mACs] at h
  split at h
  ·rename_i y s h1 h2
   obtain rfl:=Option.some.inj h
   obtain ⟨g1,g2⟩:=mACs_get h2
   refine ⟨by simp [g1],fun i hi=> ?_⟩
   cases i with
   | zero=>simpa using h1
   | succ i=>simpa using g2 i (by simpa using hi)
  ·cases h
theorem ru_view (hb:oneOne bs) (hk:oneOne ks) (hl:mLb st ks=some st'.lb) {x y:AU} {v:Value} (h2:mAU bs ks (lk st.lb) x=some y) (r2:RU cx m w (lk st.lb) x v):RU cx (m.view bs ks) w (lk st'.lb) y v:=by
 cases x with
 | c x=>
  simp only [mAU,Option.map_eq_some_iff] at h2
  obtain ⟨z,h2,rfl⟩:=h2
  exact rcl_view hb hk hl h2 r2
 | agg l=>
  simp only [mAU,Option.map_eq_some_iff] at h2
  obtain ⟨z,h2,rfl⟩:=h2
  obtain ⟨vs,e,hsz,hc⟩:=r2
  obtain ⟨g1,g2⟩:=mACs_get h2
  refine ⟨vs,e,by rw [g1]; exact hsz,fun i hi=> ?_⟩
  rw [g1] at hi
  obtain ⟨u,hu,hr⟩:=hc i hi
  exact ⟨u,hu,rcl_view hb hk hl (g2 i hi) hr⟩
theorem Rel.view (R : Rel cx st m a w) (hv : View ts bs ks st st') (hsus : keepAll bs ks (lk st.lb) (cx.sus.map (·.1))) : Rel cx st' (m.view bs ks) a w := by
  obtain ⟨hb, hk, v1, v2, v3⟩ := hv
  refine { defers := R.defers, recs := R.recs, nt := R.nt, env := R.env, size := R.size, old := R.old, s0 := R.s0, slots := fun t v h => ?_, sus := fun p hp => ?_, boxes := fun b cs h => ?_, nobox := fun b h => ?_, ods := fun k x h => ?_, noods := fun k h => ?_, deeps := ?_, sets := ?_,
           ownb := fun k B h => ?_, boxb := fun b B h => ?_, injo := fun k k' B h h' => ?_, injb := fun b b' B h h' => ?_, dis := fun k b B h h' => ?_ }
  · obtain ⟨x, y, h1, h2, rfl⟩ := lk_mSl v1 t v h
    obtain ⟨r1, r2⟩ := R.slots t _ h1
    exact ⟨r1, ru_view hb hk v3 h2 r2⟩
  · have he := keepAll_mem hsus p.1 (List.mem_map.2 ⟨p, hp, rfl⟩)
    have hr := R.sus p hp
    revert he hr
    generalize p.1 = v
    intro he hr
    cases v with
    | u x =>
      simp only [mAV, Option.map_eq_some_iff] at he
      obtain ⟨y, h2, e⟩ := he
      cases e
      exact ru_view hb hk v3 h2 hr
    | _ => cases he
  · obtain ⟨b0, cs0, h1, h2, h3⟩ := (lk_mBx v2 b).1 cs h
    obtain ⟨B, c, T, e1, e2, e3, e4⟩ := R.boxes b0 cs0 h2
    obtain ⟨g1, g2⟩ := mACs_get h3
    refine ⟨B, c, T, by simp [Mp.view, h1, e1], e2, by rw [g1]; exact e3, fun j hj => ?_⟩
    rw [g1] at hj
    obtain ⟨u, hu, hr⟩ := e4 j hj
    exact ⟨u, hu, rcl_view hb hk v3 (g2 j hj) hr⟩
  · simp [Mp.view, (lk_mBx v2 b).2 h]
  · cases hL : lk st'.lb k with
    | none => rw [hL] at h; cases h
    | some L =>
      rw [hL] at h
      obtain ⟨k0, y, h1, h2, h3⟩ := (lk_mLb v3 k).1 _ hL
      obtain ⟨r1, r2⟩ := R.ods k0 x (by rw [h2, ← mLab_od h3]; exact h)
      refine ⟨r1, fun B hB => ?_⟩
      simp only [Mp.view, h1, Option.bind_some] at hB
      exact Row.ext ext_view rfl (r2 B hB)
  · simp only [Mp.view]
    cases e : rk ks k with
    | none => rfl
    | some k0 =>
      obtain ⟨y, x, e1, e2, e3⟩ := (lk_mLb v3 k).2 k0 e
      exact R.noods k0 (by rw [e1, ← mLab_od e2, ← e3]; exact h)
  · have hin : ∀ k j B, (m.view bs ks).inn k j = some B → ∃ k0, rk ks k = some k0 ∧ m.inn k0 j = some B := fun k j B h => by
      simpa only [Mp.view, Option.bind_eq_some_iff] using h
    refine ⟨fun k x h => ?_, fun k j B h => ?_, fun k j B h => ?_, fun k j k' j' B h h' => ?_, fun k j k' B h h' => ?_, fun k j b B h h' => ?_⟩
    · obtain ⟨k0, y, h1, h2, h3⟩ := (lk_mLb v3 k).1 _ h
      obtain rfl := (mLab_eq h3).1
      obtain ⟨g1, g2, g3⟩ := R.deeps.ok k0 x h2
      have e1 : (m.view bs ks).own k = m.own k0 := by simp [Mp.view, h1]
      have e2 : ∀ j, (m.view bs ks).inn k j = m.inn k0 j := fun j => by simp [Mp.view, h1]
      refine ⟨g1, g2, fun j hj => ⟨(g3 j hj).1, ?_⟩⟩
      rcases (g3 j hj).2 with ⟨q1, q2⟩ | ⟨q1, ⟨B, u, q2, q3, q4⟩, q5⟩
      · exact .inl ⟨q1, by rw [e2]; exact q2⟩
      · exact .inr ⟨q1, ⟨B, u, by rw [e1]; exact q2, q3, by rw [e2]; exact q4⟩, fun B' h' => Row.ext ext_view rfl (q5 B' (by rw [← e2]; exact h'))⟩
    · obtain ⟨k0, e, h⟩ := hin k j B h
      obtain ⟨x, q1, q2⟩ := R.deeps.only k0 j B h
      obtain ⟨y, x', f1, f2, f3⟩ := (lk_mLb v3 k).2 k0 e
      rw [q1] at f1
      obtain rfl := Option.some.inj f1
      obtain rfl := Option.some.inj f2
      exact ⟨x, f3, q2⟩
    · obtain ⟨k0, _, h⟩ := hin k j B h
      exact R.deeps.blk _ _ _ h
    · obtain ⟨k0, e, h⟩ := hin k j B h
      obtain ⟨k1, e', h'⟩ := hin k' j' B h'
      obtain ⟨rfl, rfl⟩ := R.deeps.inj _ _ _ _ _ h h'
      have := (rk_iff hk).2 e
      rw [(rk_iff hk).2 e'] at this
      exact ⟨(Option.some.inj this).symm, rfl⟩
    · obtain ⟨k0, e, h⟩ := hin k j B h
      simp only [Mp.view, Option.bind_eq_some_iff] at h'
      obtain ⟨k1, _, h'⟩ := h'
      exact R.deeps.own _ _ _ _ h h'
    · obtain ⟨k0, e, h⟩ := hin k j B h
      simp only [Mp.view, Option.bind_eq_some_iff] at h'
      obtain ⟨b0, _, h'⟩ := h'
      exact R.deeps.box _ _ _ _ h h'
  · refine ⟨fun k x h => ?_, fun k B h => ?_, fun k k' B h h' => ?_⟩
    · obtain ⟨k0, y, h1, h2, h3⟩ := (lk_mLb v3 k).1 _ h
      obtain ⟨e0, e1⟩ := mLab_eq h3
      subst e0
      obtain ⟨B, g1, g2⟩ := R.sets.ok k0 x h2
      refine ⟨B, by simp [Mp.view, h1, g1], ?_⟩
      cases x with
      | keys y => exact g2
      | tab y => exact absurd rfl (e1 y)
    · simp only [Mp.view, Option.bind_eq_some_iff] at h
      obtain ⟨k0, _, h⟩ := h
      exact R.sets.blk _ _ h
    · simp only [Mp.view, Option.bind_eq_some_iff] at h h'
      obtain ⟨k0, e, h⟩ := h
      obtain ⟨k1, e', h'⟩ := h'
      obtain rfl := R.sets.inj _ _ _ h h'
      have := (rk_iff hk).2 e
      rw [(rk_iff hk).2 e'] at this
      exact (Option.some.inj this).symm
  · simp only [Mp.view, Option.bind_eq_some_iff] at h
    obtain ⟨k0, _, h⟩ := h
    exact R.ownb _ _ h
  · simp only [Mp.view, Option.bind_eq_some_iff] at h
    obtain ⟨k0, _, h⟩ := h
    exact R.boxb _ _ h
  · simp only [Mp.view, Option.bind_eq_some_iff] at h h'
    obtain ⟨k0, e, h⟩ := h
    obtain ⟨k1, e', h'⟩ := h'
    obtain rfl := R.injo _ _ _ h h'
    have := (rk_iff hk).2 e
    rw [(rk_iff hk).2 e'] at this
    exact (Option.some.inj this).symm
  · simp only [Mp.view, Option.bind_eq_some_iff] at h h'
    obtain ⟨k0, e, h⟩ := h
    obtain ⟨k1, e', h'⟩ := h'
    obtain rfl := R.injb _ _ _ h h'
    have := (rk_iff hb).2 e
    rw [(rk_iff hb).2 e'] at this
    exact (Option.some.inj this).symm
  · simp only [Mp.view, Option.bind_eq_some_iff] at h h'
    obtain ⟨k0, _, h⟩ := h
    obtain ⟨b0, _, h'⟩ := h'
    exact R.dis _ _ _ h h'
def St.own0 (st:St) (t k s:Nat):St:=⟨(t,.c (.own k))::st.sl,st.bx,(k,.owned (.sl s 0 fun _=>[]))::st.lb⟩
end
section
variable {P:Program} {ty:Tys} {tb:Fns} {n:Nat} {draw:List Oper→St→Prop} {fin':Jmp→St→Prop} {stop:List K→St→Prop} {k:List K} {st:St} {sus:List AV}
theorem Stop.loop (S:Stop P ty tb n draw fin' stop sus) {c:Code} {A:Type} (head:A→St) (inv:A→Prop) (rank:A→Nat) (a0:A) (h0:inv a0)
 (init:stop (.lp c::k) (head a0)→stop (.lp c::k) st)
 (round:∀ a,inv a→(∀ a',inv a'→rank a'<rank a→stop (.lp c::k) (head a'))→stop (.code c:: .lp c::k) (head a)):stop (.lp c::k) st:=by
 refine init ?_
 have key:∀ r a,rank a≤r→inv a→stop (.lp c::k) (head a):=by
  intro r
  induction r with
  | zero=>intro a hr hi; exact S.lp (round a hi (fun a' hi' hlt=>by omega))
  | succ r ih=>intro a hr hi; exact S.lp (round a hi (fun a' hi' hlt=>ih a' (by omega) hi'))
 exact key _ a0 (Nat.le_refl _) h0
end
attribute [go_sem] mAV keepAll mCap mCaps mAC mACs mAU mSl mBx mLb mLbs mLab oneOne View
end Go.Abs
set_option linter.unusedVariables false
set_option linter.unusedSimpArgs false
namespace Go.Abs
inductive Eqv:D→D→Prop
 | refl (d):Eqv d d
 | nil (s s' g g'):Eqv (.sl s 0 g) (.sl s' 0 g')
 | sl (s n g g') (hl:∀ i,i<n→(g i).length=(g' i).length) (he:∀ i j,i<n→j<s→Eqv ((g i).getD j .undef) ((g' i).getD j .undef)):Eqv (.sl s n g) (.sl s n g')
 | pnil (l l'):Eqv (.pt false l) (.pt false l')
 | nlsl (s g):Eqv .nl (.sl s 0 g)
 | pt (b l l') (hl:l.length=l'.length) (he:∀ j,j<l.length→Eqv (l.getD j .undef) (l'.getD j .undef)):Eqv (.pt b l) (.pt b l')
theorem RD.eqv {w:World} {S:Nat→Prop} {d d':D} {v:Value} (h:Eqv d d') (hr:RD w S d v):RD w S d' v:=by
 induction h generalizing v with
 | refl d=>exact hr
 | nil s s' g g'=>
  cases hr with
  | sl0 s g ao cap=>exact .sl0 _ _ _ _
  | sl s n g B o cap f hn=>omega
 | sl s n g g' hl he ih=>
  cases hr with
  | sl0 s g ao cap=>exact .sl0 _ _ _ _
  | sl s n g B o cap f hn hcap hB hS hl' hc hr=>
   exact .sl s n g' B o cap f hn hcap hB hS (fun i hi=>by rw [← hl i hi]; exact hl' i hi) hc (fun i j hi hj=>ih i j hi hj (hr i j hi hj))
 | pnil l l'=>cases hr; exact .pnil l'
 | nlsl s g=>cases hr; exact .sl0 _ _ _ _
 | pt b l l' hl he ih=>
  cases hr with
  | pnil=>exact .pnil l'
  | ptr l B o f hB hS hc hr=>exact .ptr l' B o f hB hS (fun j hj=>hc j (by rw [hl]; exact hj)) (fun j hj=>ih j (by rw [hl]; exact hj) (hr j (by rw [hl]; exact hj)))
def EqvO (x y:D):Prop:=
 x.isSl=true∧y.isSl=true∧x.stride=y.stride∧x.len=y.len∧∀ i,i<x.len→(x.nth i).length=(y.nth i).length∧∀ j,Eqv ((x.nth i).getD j .undef) ((y.nth i).getD j .undef)
theorem EqvO.refl {x:D} (h:x.isSl=true):EqvO x x:=⟨h,h,rfl,rfl,fun _ _=>⟨rfl,fun _=> .refl _⟩⟩
theorem EqvO.eqv {x y:D} (h:EqvO x y):Eqv x y:=by
 obtain ⟨h1,h2,h3,h4,h5⟩:=h
 rw [D.eta h1,D.eta h2, ← h3, ← h4]
 exact .sl _ _ _ _ (fun i hi=>(h5 i hi).1) (fun i j hi _=>(h5 i hi).2 j)
theorem EqvO.of_nth {x y:D} (h1:x.isSl=true) (h2:y.isSl=true) (h3:x.stride=y.stride) (h4:x.len=y.len) (h5:∀ i,i<x.len→x.nth i=y.nth i):EqvO x y:=
 ⟨h1,h2,h3,h4,fun i hi=>by rw [h5 i hi]; exact ⟨rfl,fun _=> .refl _⟩⟩
theorem Row.eqv {w:World} {S:Nat→Prop} {B:Nat} {x y:D} (h:EqvO x y) (hr:Row w S B x):Row w S B y:=by
 obtain ⟨c,T,hc,hs,hx⟩:=hr
 obtain ⟨h1,h2,h3,h4,h5⟩:=h
 refine ⟨c,T,hc,h2,fun i hi=> ?_⟩
 rw [← h4] at hi
 obtain ⟨g1,g2⟩:=hx i hi
 refine ⟨by rw [← (h5 i hi).1,g1,h3],fun j hj=> ?_⟩
 rw [← h3] at hj
 obtain ⟨u,hu,hd⟩:=g2 j hj
 exact ⟨u,by rw [← h3]; exact hu,hd.eqv ((h5 i hi).2 j)⟩
theorem Hdl.eqv {w:World} {o:Option Nat} {x y:D} {v:Value} (h:EqvO x y) (hr:Hdl w o x v):Hdl w o y v:=by
 obtain ⟨h1,h2,h3,h4,h5⟩:=h
 cases o with
 | none=>exact ⟨hr.1,by rw [← h4]; exact hr.2⟩
 | some B=>
  obtain ⟨cap,c,T,e1,e2,e3,e4⟩:=hr
  exact ⟨cap,c,T,by rw [← h4]; exact e1,e2,by rw [← h3]; exact e3,by rw [← h4]; exact e4⟩
def EqvD (x y:D):Prop:=x.isSl=true∧y.isSl=true∧x.stride=y.stride∧x.len=y.len∧∀ i,i<x.len→(x.nth i).length=(y.nth i).length∧EqvO (yd x i) (yd y i)
theorem EqvD.holed {x y:D} (h:EqvD x y):EqvO x.holed y.holed:= .of_nth rfl rfl h.2.2.1 h.2.2.2.1 (fun _ _=>rfl)
theorem eqv_str {d:D} {s:ByteArray}:(Eqv (.str s) d→d= .str s)∧(Eqv d (.str s)→d= .str s):=⟨fun h=>by cases h; rfl,fun h=>by cases h; rfl⟩
theorem SetAt.eqv {w:World} {B:Nat} {x y:D} (h:SetAt w B x) (e:EqvO x y):SetAt w B y:=by
 obtain ⟨es,c,h1,h2,h3⟩:=h
 obtain ⟨e1,e2,e3,e4,e5⟩:=e
 refine ⟨es,c,h1,h2,fun s=>(h3 s).trans ⟨fun ⟨i,hi,hs⟩=>⟨i,by rw [← e4]; exact hi,?_⟩,fun ⟨i,hi,hs⟩=>⟨i,by rw [e4]; exact hi,?_⟩⟩⟩
 ·have:=(e5 i hi).2 0
  unfold yd at hs ⊢
  rw [hs] at this
  exact eqv_str.1 this
 ·have:=(e5 i (by rw [e4]; exact hi)).2 0
  unfold yd at hs ⊢
  rw [hs] at this
  exact eqv_str.2 this
def eqvAC:AC→AC→Prop
 | .d x,.d y=>Eqv x y
 | .nils,.d y=>y.isSl=true∧y.len=0
 | .sptr l 0,.d y=>Eqv (.pt true l) y
 | .clo g [],.d y=>y= .fn g
 | a,b=>a=b
def eqvACs:List AC→List AC→Prop
 | [],[]=>True
 | x::r,y::s=>eqvAC x y∧eqvACs r s
 | _,_=>False
def eqvAV:AV→AV→Prop
 | .u (.c x),.u (.c y)=>eqvAC x y
 | .u (.agg l),.u (.agg r)=>eqvACs l r
 | _,_=>False
def eqvMD:MD→MD→Prop
 | .keys x,.keys y=>EqvO x y
 | _,_=>False
def eqvLab:Lab→Lab→Prop
 | .owned x,.owned y=>EqvO x y
 | .deep x,.deep y=>EqvD x y
 | .set x,.set y=>eqvMD x y
 | .shared x,.shared y=>y.isSl=true∧Eqv x y
 | .dead,.dead=>True
 | _,_=>False
def zipR {α:Type} (R:α→α→Prop):List (Nat×α)→List (Nat×α)→Prop
 | [],[]=>True
 | (k,x)::r,(k',y)::s=>(k=k'∧R x y)∧zipR R r s
 | _,_=>False
theorem lk_zip {α:Type} {R:α→α→Prop}:∀ {l l':List (Nat×α)},zipR R l l'→∀ k,(∀ y,lk l' k=some y→∃ x,lk l k=some x∧R x y)∧(∀ x,lk l k=some x→∃ y,lk l' k=some y∧R x y)
 | [],[],_,k=>⟨fun _ h=>(by cases h),fun _ h=>(by cases h)⟩
 | [],_::_,h,_=>h.elim
 | _::_,[],h,_=>h.elim
 | (a,x)::r,(b,y)::s,h,k=>by
  obtain ⟨⟨rfl,h1⟩,h2⟩:=h
  simp only [lk]
  by_cases e:a=k
  ·simp only [if_pos e]
   exact ⟨fun y' hy=>⟨x,rfl,by obtain rfl:=Option.some.inj hy; exact h1⟩,fun x' hx=>⟨y,rfl,by obtain rfl:=Option.some.inj hx; exact h1⟩⟩
  ·simp only [if_neg e]
   exact lk_zip h2 k
theorem Eqv.nth {x y:D} (h:Eqv x y) {i:Nat} (hi:i<x.len):i<y.len∧x.stride=y.stride∧(x.nth i).length=(y.nth i).length∧∀ j,j<x.stride→Eqv ((x.nth i).getD j .undef) ((y.nth i).getD j .undef):=by
 cases h with
 | refl d=>exact ⟨hi,rfl,rfl,fun _ _=> .refl _⟩
 | nil s s' g g'=>exact absurd hi (by simp [D.len])
 | sl s n g g' hl he=>exact ⟨hi,rfl,hl i hi,fun j hj=>he i j hi hj⟩
 | pnil=>exact absurd hi (by simp [D.len])
 | nlsl=>exact absurd hi (by simp [D.len])
 | pt=>exact absurd hi (by simp [D.len])
theorem Ptr.eqv {w:World} {S:Nat→Prop} {l r:List D} {off:Nat} {v:Value} (hl:l.length=r.length) (he:∀ j,j<l.length→Eqv (l.getD j .undef) (r.getD j .undef)) (h:Ptr w S l off v):Ptr w S r off v:=by
 obtain ⟨B,o,h1,h2,h3,h4⟩:=h
 refine ⟨B,o,h1,h2,h3,fun j hj=> ?_⟩
 rw [← hl] at hj
 obtain ⟨u,hu,hr⟩:=h4 j hj
 exact ⟨u,hu,hr.eqv (he j hj)⟩
section
variable {cx:Cx} {st st':St} {m:Mp} {a:Act} {w:World}
theorem rcl_eqv {lb lb' : Nat → Option Lab} (hl : ∀ k x, lb k = some x → ∃ y, lb' k = some y ∧ eqvLab x y) {x y : AC} {v : Value} (h : eqvAC x y) (hr : RCl cx m w lb x v) : RCl cx m w lb' y v := by
  cases x with
  | d x => cases y with
    | d y => exact RD.eqv h hr
    | _ => cases h
  | undef => cases h; exact hr
  | nils => cases y with
    | d y =>
      obtain ⟨h1, h2⟩ := h
      have hr : v = .slice none 0 0 := hr
      subst hr
      cases y with
      | sl s n g => obtain rfl : n = 0 := h2
                    exact RD.sl0 _ _ _ _
      | _ => cases h1
    | _ => first | (cases h; exact hr) | cases h
  | ref b off => cases h; exact hr
  | sptr l off =>
    cases off with
    | zero => cases y with
      | d y => exact RD.eqv h (rd_pt.2 hr)
      | _ => first | (cases h; done) | (cases h; exact hr)
    | succ o => cases h; exact hr
  | clo f caps =>
    cases caps with
    | nil => cases y with
      | d y => cases h; rw [rcl_fn hr]; exact RD.fn f
      | _ => first | (cases h; done) | (cases h; exact hr)
    | cons _ _ => cases h; exact hr
  | yld l => cases h; exact hr
  | clp x => cases h; exact hr
  | glob g off => cases h; exact hr
  | bsl b off n s => cases h; exact hr
  | bnd f l => cases h; exact hr
  | own k =>
    cases h
    simp only [RCl] at hr ⊢
    cases hk : lb k with
    | none => rw [hk] at hr; exact hr.elim
    | some L =>
      rw [hk] at hr
      obtain ⟨L', e1, e2⟩ := hl k L hk
      rw [e1]
      cases L <;> cases L' <;> first | exact e2.elim | skip
      · exact hr
      · exact Hdl.eqv e2 hr
      · exact ⟨e2.1, RD.eqv e2.2 hr.2⟩
      · exact Hdl.eqv (x := D.holed _) (y := D.holed _) e2.holed hr
      · exact hr
  | optr k i off =>
    cases h
    simp only [RCl] at hr ⊢
    cases hk : lb k with
    | none => rw [hk] at hr; exact hr.elim
    | some L =>
      rw [hk] at hr
      obtain ⟨L', e1, e2⟩ := hl k L hk
      rw [e1]
      cases L <;> cases L' <;> first | exact e2.elim | skip
      · exact hr
      · obtain ⟨h1, h2, h3, h4, h5⟩ := e2
        exact ⟨by rw [← h4]; exact hr.1, by rw [← h3]; exact hr.2⟩
      · obtain ⟨g1, g2, g3⟩ := hr
        obtain ⟨n1, n2, n3, n4⟩ := e2.2.nth g1
        exact ⟨n1, by rw [← n3, g2, n2], Ptr.eqv n3 (fun j hj => n4 j (by omega)) g3⟩
      · obtain ⟨h1, h2, h3, h4, h5⟩ := e2
        exact ⟨by rw [← h4]; exact hr.1, by rw [← h3]; exact hr.2⟩
      · exact hr
theorem eqvACs_get:∀ {l r:List AC},eqvACs l r→r.length=l.length∧∀ i,i<l.length→eqvAC (l.getD i .undef) (r.getD i .undef)
 | [],[],_=>⟨rfl,fun i hi=>absurd hi (by simp)⟩
 | [],_::_,h=>h.elim
 | _::_,[],h=>h.elim
 | x::l,y::r,h=>by
  obtain ⟨g1,g2⟩:=eqvACs_get h.2
  refine ⟨by simp [g1],fun i hi=> ?_⟩
  cases i with
  | zero=>simpa using h.1
  | succ i=>simpa using g2 i (by simpa using hi)
theorem eqvAC_refl (x:AC):eqvAC x x:=by
 cases x<;>first | exact Eqv.refl _ | rfl | (rename_i l off; cases off<;>rfl)
theorem ra_eqv_self {lb lb':Nat→Option Lab} (hl:∀ k x,lb k=some x→∃ y,lb' k=some y∧eqvLab x y) {x:AV} {v:Value} (hr:RA cx m w lb x v):RA cx m w lb' x v:=by
 have hu:∀ {x:AU} {v:Value},RU cx m w lb x v→RU cx m w lb' x v:=fun {x v} hr=>by
  cases x with
  | c x=>exact rcl_eqv hl (eqvAC_refl x) hr
  | agg l=>
   obtain ⟨vs,e,hsz,hc⟩:=hr
   refine ⟨vs,e,hsz,fun i hi=> ?_⟩
   obtain ⟨u,hu,hr⟩:=hc i hi
   exact ⟨u,hu,rcl_eqv hl (eqvAC_refl _) hr⟩
 cases x with
 | u x=>exact hu hr
 | tup l=>
  obtain ⟨vs,e,hsz,hc⟩:=hr
  refine ⟨vs,e,hsz,fun i hi=> ?_⟩
  obtain ⟨u,h1,h2⟩:=hc i hi
  exact ⟨u,h1,hu h2⟩
 | cnd b x=>exact ⟨fun h=>hu (hr.1 h),hr.2⟩
theorem Rel.eqv (R : Rel cx st m a w) (h1 : zipR eqvAV st.sl st'.sl) (h2 : zipR eqvACs st.bx st'.bx) (h3 : zipR eqvLab st.lb st'.lb) : Rel cx st' m a w := by
  have hl : ∀ k x, lk st.lb k = some x → ∃ y, lk st'.lb k = some y ∧ eqvLab x y := fun k => (lk_zip h3 k).2
  refine { defers := R.defers, recs := R.recs, nt := R.nt, env := R.env, size := R.size, old := R.old, s0 := R.s0, slots := fun t v h => ?_, sus := fun p hp => ra_eqv_self hl (R.sus p hp), boxes := fun b cs h => ?_, nobox := fun b h => ?_, ods := fun k x h => ?_, noods := fun k h => ?_, deeps := ?_, sets := ?_,
           ownb := R.ownb, boxb := R.boxb, injo := R.injo, injb := R.injb, dis := R.dis }
  · obtain ⟨u, hu, he⟩ := (lk_zip h1 t).1 v h
    obtain ⟨r1, r2⟩ := R.slots t u hu
    refine ⟨r1, ?_⟩
    cases u with
    | u x =>
      cases v with
      | u y =>
        cases x with
        | c x => cases y with
          | c y => exact rcl_eqv hl he r2
          | agg l => exact he.elim
        | agg l => cases y with
          | c y => exact he.elim
          | agg r =>
            obtain ⟨vs, e, hsz, hc⟩ := r2
            obtain ⟨g1, g2⟩ := eqvACs_get he
            refine ⟨vs, e, by rw [g1]; exact hsz, fun i hi => ?_⟩
            rw [g1] at hi
            obtain ⟨z, hz, hr⟩ := hc i hi
            exact ⟨z, hz, rcl_eqv hl (g2 i hi) hr⟩
      | _ => cases x <;> exact he.elim
    | _ => exact he.elim
  · obtain ⟨cs0, hc, he⟩ := (lk_zip h2 b).1 cs h
    obtain ⟨B, c, T, e1, e2, e3, e4⟩ := R.boxes b cs0 hc
    obtain ⟨g1, g2⟩ := eqvACs_get he
    refine ⟨B, c, T, e1, e2, by rw [g1]; exact e3, fun j hj => ?_⟩
    rw [g1] at hj
    obtain ⟨u, hu, hr⟩ := e4 j hj
    exact ⟨u, hu, rcl_eqv hl (g2 j hj) hr⟩
  · refine R.nobox b ?_
    cases hb : lk st.bx b with
    | none => rfl
    | some cs =>
      obtain ⟨y, hy, _⟩ := (lk_zip h2 b).2 cs hb
      rw [h] at hy; cases hy
  · cases hL' : lk st'.lb k with
    | none => rw [hL'] at h; cases h
    | some L' =>
      rw [hL'] at h
      obtain ⟨L, hL, he⟩ := (lk_zip h3 k).1 _ hL'
      have hE : ∃ y, od (some L) = some y ∧ EqvO y x := by
        cases L <;> cases L' <;> first | exact he.elim | (obtain rfl := Option.some.inj h; exact ⟨_, rfl, he⟩) | (obtain rfl := Option.some.inj h; exact ⟨_, rfl, EqvD.holed he⟩) | (cases h; done)
      obtain ⟨y, e1, e2⟩ := hE
      obtain ⟨r1, r2⟩ := R.ods k y (by rw [hL]; exact e1)
      exact ⟨e2.2.1, fun B hB => Row.eqv e2 (r2 B hB)⟩
  · refine R.noods k ?_
    cases hL : lk st.lb k with
    | none => rfl
    | some L =>
      obtain ⟨L', hL', he⟩ := hl k _ hL
      rw [hL'] at h
      cases L <;> cases L' <;> first | exact he.elim | rfl | (cases h; done)
  · have hdp : ∀ k y, lk st'.lb k = some (.deep y) → ∃ x, lk st.lb k = some (.deep x) ∧ EqvD x y := fun k y h => by
      obtain ⟨L, hL, he⟩ := (lk_zip h3 k).1 _ h
      cases L with
      | deep x => exact ⟨x, hL, he⟩
      | _ => exact he.elim
    refine ⟨fun k y h => ?_, fun k j B h => ?_, R.deeps.blk, R.deeps.inj, R.deeps.own, R.deeps.box⟩
    · obtain ⟨x, hx, he⟩ := hdp k y h
      obtain ⟨g1, g2, g3⟩ := R.deeps.ok k x hx
      obtain ⟨e1, e2, e3, e4, e5⟩ := he
      refine ⟨e2, by rw [← e3]; exact g2, fun j hj => ?_⟩
      rw [← e4] at hj
      refine ⟨by rw [← (e5 j hj).1]; exact (g3 j hj).1, ?_⟩
      have e6 := (e5 j hj).2
      rcases (g3 j hj).2 with ⟨q1, q2⟩ | ⟨q1, ⟨B, u, q2, q3, q4⟩, q5⟩
      · rw [q1] at e6; cases e6.1
      · exact .inr ⟨e6.2.1, ⟨B, u, q2, q3, Hdl.eqv e6 q4⟩, fun B' h' => Row.eqv e6 (q5 B' h')⟩
    · obtain ⟨x, q1, q2⟩ := R.deeps.only k j B h
      obtain ⟨L, e1, e2⟩ := hl k _ q1
      cases L with
      | deep y => exact ⟨y, e1, by rw [← e2.2.2.2.1]; exact q2⟩
      | _ => exact e2.elim
  · refine ⟨fun k y h => ?_, R.sets.blk, R.sets.inj⟩
    obtain ⟨L, hL, he⟩ := (lk_zip h3 k).1 _ h
    cases L with
    | set x =>
      cases x with
      | keys x => cases y with
        | keys y => obtain ⟨B, g1, g2⟩ := R.sets.ok k _ hL; exact ⟨B, g1, he.2.1, g2.2.eqv he⟩
        | tab _ => exact he.elim
      | tab _ => exact he.elim
    | _ => exact he.elim
end
section
variable {P:Program} {ty:Tys} {tb:Fns} {n:Nat} {draw:List Oper→St→Prop} {fin':Jmp→St→Prop} {stop:List K→St→Prop} {k:List K} {st:St} {sus:List AV}
def Sees (sus:List AV) (ts:List Nat) (bs ks:List (Nat×Nat)) (st st':St):Prop:=
 keepAll bs ks (lk st.lb) sus∧oneOne bs∧oneOne ks∧(∃ s,mSl bs ks st ts=some s∧zipR eqvAV s st'.sl)∧(∃ s,mBx bs ks st bs=some s∧zipR eqvACs s st'.bx)∧∃ s,mLb st ks=some s∧zipR eqvLab s st'.lb
theorem Stop.sees (S:Stop P ty tb n draw fin' stop sus) (ts:List Nat) (bs ks:List (Nat×Nat)) {st':St} (hv:Sees sus ts bs ks st st') (h:stop k st'):stop k st:=by
 obtain ⟨h0,h1,h2,⟨s1,e1,z1⟩,⟨s2,e2,z2⟩,⟨s3,e3,z3⟩⟩:=hv
 exact S.weak st' (fun _ m _ _ _ hs R=>⟨m.view bs ks,Rel.eqv (R.view (st':=⟨s1,s2,s3⟩) ⟨h1,h2,e1,e2,e3⟩ (by rw [hs]; exact h0)) z1 z2 z3⟩) h
theorem Stop.own0 (S:Stop P ty tb n draw fin' stop sus) (t j s:Nat) (ht:lk st.sl t=some (.c .nils)) (hj:lk st.lb j=none)
 (h:stop k ⟨(t,.c (.own j))::st.sl,st.bx,(j,.owned (.sl s 0 fun _=>[]))::st.lb⟩):stop k st:=by
 refine S.weak _ (fun cx m a w _ _ R=>⟨m,?_⟩) h
 have R':=R.newNil hj (x:= .sl s 0 fun _=>[]) rfl
 have hno:m.own j=none:=R.noown j hj
 refine { R' with slots:=fun t' v h=> ?_ }
 simp only [lk] at h
 split at h
 ·rename_i e; subst e
  obtain rfl:=Option.some.inj h
  obtain ⟨r1,r2⟩:=R.slots _ _ ht
  refine ⟨r1,?_⟩
  simp only [RA,RU,RCl,lk_same,hno]
  exact ⟨r2,rfl⟩
 ·exact R'.slots t' v h
theorem Stop.own0b (S:Stop P ty tb n draw fin' stop sus) (b i j s:Nat) {l:List AC} (hb:lk st.bx b=some l) (hi:l.getD i .undef= .nils) (hil:i<l.length) (hj:lk st.lb j=none)
 (h:stop k ⟨st.sl,(b,l.set i (.own j))::st.bx,(j,.owned (.sl s 0 fun _=>[]))::st.lb⟩):stop k st:=by
 refine S.weak _ (fun cx m a w _ _ R=>⟨m,?_⟩) h
 have R':=R.newNil hj (x:= .sl s 0 fun _=>[]) rfl
 have hno:m.own j=none:=R.noown j hj
 refine { R' with boxes:=fun b' cs h=> ?_,nobox:=fun b' h=> ?_ }
 ·simp only [lk] at h
  split at h
  ·rename_i e; subst e
   obtain rfl:=Option.some.inj h
   obtain ⟨B,c,T,g1,g2,g3,g4⟩:=R'.boxes _ _ hb
   obtain ⟨B0,c0,T0,f1,f2,f3,f4⟩:=R.boxes _ _ hb
   refine ⟨B,c,T,g1,g2,by simpa using g3,fun q hq=> ?_⟩
   simp only [List.length_set] at hq
   obtain ⟨u,hu,hr⟩:=g4 q hq
   refine ⟨u,hu,?_⟩
   by_cases hqi:q=i
   ·subst hqi
    rw [f1] at g1
    obtain rfl:=Option.some.inj g1
    rw [f2] at g2
    obtain ⟨rfl,rfl⟩:c0=c∧T0=T:=by simpa using g2
    obtain ⟨u0,hu0,hr0⟩:=f4 q hq
    rw [hu] at hu0
    obtain rfl:=Option.some.inj hu0
    rw [hi] at hr0
    have:(l.set q (.own j)).getD q .undef= .own j:=by simp [List.getD_eq_getElem?_getD,hil]
    rw [this]
    simp only [RCl,lk_same,hno]
    exact ⟨hr0,rfl⟩
   ·have:(l.set i (.own j)).getD q .undef=l.getD q .undef:=by simp [List.getD_eq_getElem?_getD,Ne.symm hqi]
    rw [this]; exact hr
  ·exact R'.boxes b' cs h
 ·simp only [lk] at h
  split at h
  ·cases h
  ·exact R'.nobox b' h
def D.nils (t n:Nat):D:= .sl 1 n fun _=>[.sl t 0 fun _=>[]]
def allNl (x:D):Prop:=∀ j,j<x.len→x.nth j=[.nl]
theorem Rel.toDeep {cx:Cx} {m:Mp} {a:Act} {w:World} (R:Rel cx st m a w) {kl t:Nat} {x:D} (hk:lk st.lb kl=some (.owned x)) (hst:x.stride=1) (hn:allNl x) (hB:x.len≠0→∃ B,m.own kl=some B) :
 Rel cx ⟨st.sl,st.bx,(kl,.deep (D.nils t x.len))::st.lb⟩ m a w:=by
 obtain ⟨hsl,hrow⟩:=R.owned kl x hk
 have hm:Move cx m w (lk st.lb) m w (lk ((kl,.deep (D.nils t x.len))::st.lb)):=by
  refine ⟨⟨Nat.le_refl _,fun _ _ _=>rfl,fun _ _ h=>h⟩,fun _ _ h=>h,fun k'=> ?_⟩
  by_cases e:k'=kl
  ·subst e
   simp only [LabOk,hk,lk_same]
   exact .inr (.inl ⟨(D.nils t x.len).holed,rfl,(by first | rfl | trivial),(by first | (rw [hst]; rfl) | trivial),(by first | rfl | trivial),fun B _=> .of_eq rfl⟩)
  ·have:=labs_same (cx:=cx) (st:=st) (m:=m) (m':=m) (w:=w) (w':=w) (fun _ _ h=>h) (fun _ h _=>h) (fun k B _=> .of_eq rfl) rfl k'
   simpa only [LabOk,lk_other e] using this
 have hno:∀ j,m.inn kl j=none:=fun j=>by
  cases h:m.inn kl j with
  | none=>rfl
  | some B=>obtain ⟨y,h1,_⟩:=R.deeps.only kl j B h; rw [hk] at h1; cases h1
 refine R.of_move (.refl _) hm (fun _ _=>rfl) (.refl _) (fun b cs hb=> ?_) R.nobox (fun k' y hy=> ?_) (fun k' hk'=> ?_) ⟨fun k' y hy=> ?_,fun k' j B h=> ?_,R.deeps.blk,R.deeps.inj,R.deeps.own,R.deeps.box⟩ R.ownb R.boxb R.injo R.injb R.dis
 ·obtain ⟨B,c,T,h1,h2,h3,h4⟩:=R.boxes b cs hb
  refine ⟨B,c,T,h1,h2,h3,fun j hj=> ?_⟩
  obtain ⟨u,hu,hr⟩:=h4 j hj
  exact ⟨u,hu,hr.move hm⟩
 ·by_cases e:k'=kl
  ·subst e
   rw [lk_same] at hy
   obtain rfl:=Option.some.inj hy
   refine ⟨rfl,fun B h=> ?_⟩
   obtain ⟨c,T,hc,_,hz⟩:=hrow B h
   refine ⟨c,T,hc,rfl,fun i hi=>⟨rfl,fun j hj=> ?_⟩⟩
   have hj':j<1:=hj
   obtain rfl:j=0:=by omega
   obtain ⟨u,hu,hd⟩:=(hz i hi).2 0 (by omega)
   rw [hst] at hu
   exact ⟨u,hu,.undef _ hd.one⟩
  ·rw [lk_other e] at hy; exact R.ods k' y hy
 ·have e:k'≠kl:=by rintro rfl; rw [lk_same] at hk'; cases hk'
  exact R.noods k' (by rw [lk_other e] at hk'; exact hk')
 ·by_cases e:k'=kl
  ·subst e
   rw [lk_same] at hy
   cases hy
   refine ⟨rfl,rfl,fun j hj=>⟨rfl,.inr ⟨rfl,?_,fun B h=>by rw [hno j] at h; cases h⟩⟩⟩
   have hj':j<x.len:=hj
   obtain ⟨B,hBB⟩:=hB (by omega)
   obtain ⟨c,T,hc,_,hz⟩:=hrow B hBB
   obtain ⟨u,hu,hd⟩:=(hz j hj').2 0 (by omega)
   rw [hn j hj'] at hd
   have hun:u= .slice none 0 0:=by cases hd; rfl
   subst hun
   rw [hst,Nat.mul_one,Nat.add_zero] at hu
   exact ⟨B,.slice none 0 0,hBB,by simp only [World.cell?,hc]; simpa using hu,by rw [hno j]; exact ⟨rfl,rfl⟩⟩
  ·rw [lk_other e] at hy; exact R.deeps.ok k' y hy
 ·obtain ⟨y,h1,h2⟩:=R.deeps.only k' j B h
  have e:k'≠kl:=by rintro rfl; rw [hk] at h1; cases h1
  exact ⟨y,by rw [lk_other e]; exact h1,h2⟩
theorem Stop.toDeep (S:Stop P ty tb n draw fin' stop sus) (kl t s:Nat) {x:D} (hk:lk st.lb kl=some (.owned x)) (hs:lk st.sl s=some (.c (.own kl))) (hst:x.stride=1) (hn:allNl x)
 (h:stop k ⟨st.sl,st.bx,(kl,.deep (D.nils t x.len))::st.lb⟩):stop k st:=
 S.weak _ (fun cx m a w _ _ R=>⟨m,R.toDeep hk hst hn (fun h0=>by
  obtain ⟨_,hv⟩:=R.slots s _ hs
  simp only [RA,RU,RCl,hk] at hv
  cases ho:m.own kl with
  | none=>rw [ho] at hv; exact absurd hv.2 h0
  | some B=>exact ⟨B,rfl⟩)⟩) h
theorem Rel.undeep {cx:Cx} {m:Mp} {a:Act} {w:World} (R:Rel cx st m a w) {kl:Nat} {x y:D} (hk:lk st.lb kl=some (.deep x)) (he:EqvD x y) :
 Rel cx ⟨st.sl,st.bx,(kl,.owned y)::st.lb⟩ ⟨m.own,m.box,fun q j=>if q=kl then none else m.inn q j,m.mp⟩ a w:=by
 obtain ⟨d1,d2,d3⟩:=R.deeps.ok kl x hk
 obtain ⟨e1,e2,e3,e4,e5⟩:=he
 have hinn:∀ q j B,(if q=kl then none else m.inn q j)=some B→q≠kl∧m.inn q j=some B:=fun q j B h=>by
  split at h
  ·cases h
  ·exact ⟨by assumption,h⟩
 have hsub:∀ B',Sof cx m B'→Sof cx ⟨m.own,m.box,fun q j=>if q=kl then none else m.inn q j,m.mp⟩ B':=fun B' h=>⟨h.1,h.2.1,h.2.2.1,fun q j hq=>h.2.2.2 q j (hinn q j B' hq).2⟩
 have hin:∀ j B,m.inn kl j=some B→Sof cx ⟨m.own,m.box,fun q j=>if q=kl then none else m.inn q j,m.mp⟩ B:=fun j B h=>
  ⟨.inr (R.deeps.blk _ _ _ h).1,fun k'=>R.deeps.own _ _ k' _ h,fun b=>R.deeps.box _ _ b _ h,fun q j' hq=>(hinn q j' B hq).1 (R.deeps.inj _ _ _ _ _ (hinn q j' B hq).2 h).1⟩
 have hrow:∀ B,m.own kl=some B→Row w (Sof cx ⟨m.own,m.box,fun q j=>if q=kl then none else m.inn q j,m.mp⟩) B y:=fun B hB=>by
  obtain ⟨c,T,hc,_,hz⟩:=(R.ods kl x.holed (by rw [hk]; rfl)).2 B hB
  refine ⟨c,T,hc,e2,fun i hi=> ?_⟩
  rw [← e4] at hi
  rw [← e3,d2]
  refine ⟨by rw [← (e5 i hi).1]; exact (d3 i hi).1,fun j hj=> ?_⟩
  obtain rfl:j=0:=by omega
  have e6:=(e5 i hi).2
  rcases (d3 i hi).2 with ⟨q1,q2⟩ | ⟨q1,⟨B2,u,q2,q3,q4⟩,q5⟩
  ·rw [q1] at e6; cases e6.1
  ·rw [hB] at q2; cases q2
   simp only [World.cell?,hc] at q3
   refine ⟨u,by simpa using q3,?_⟩
   have hys:(yd y i).isSl=true:=e6.2.1
   refine (show RD w _ (yd x i) u from ?_).eqv e6.eqv
   cases ho:m.inn kl i with
   | none=>
    rw [ho] at q4
    obtain ⟨rfl,hn⟩:=q4
    rw [D.eta q1,hn]; exact .sl0 _ _ _ _
   | some B3=>
    rw [ho] at q4
    obtain ⟨cap,c3,T3,rfl,_,_,hle⟩:=q4
    exact row_rd (Row.ext ⟨Nat.le_refl _,fun _ _ _=>rfl,fun B' _ h=>hsub B' h⟩ rfl (q5 B3 ho)) (hin i B3 ho) (R.deeps.blk _ _ _ ho).2 hle
 have hm:Move cx m w (lk st.lb) ⟨m.own,m.box,fun q j=>if q=kl then none else m.inn q j,m.mp⟩ w (lk ((kl,.owned y)::st.lb)):=by
  refine ⟨⟨Nat.le_refl _,fun _ _ _=>rfl,fun B' _ h=>hsub B' h⟩,fun _ _ h=>h,fun k'=> ?_⟩
  by_cases e:k'=kl
  ·subst e
   simp only [LabOk,hk,lk_same]
   exact .inr (.inl ⟨y,(by first | rfl | trivial),e4.symm,e3.symm,(by first | rfl | trivial),fun B _=> .of_eq rfl⟩)
  ·have:=labs_same (cx:=cx) (st:=st) (m:=m) (m':=m) (w:=w) (w':=w) (fun _ _ h=>h) (fun _ h _=>h) (fun k B _=> .of_eq rfl) rfl k'
   simp only [LabOk,lk_other e] at this ⊢
   cases hl:lk st.lb k' with
   | none=>trivial
   | some L=>
    simp only [hl] at this ⊢
    cases L with
    | owned z=>exact .inr (.inl ⟨z,(by first | rfl | trivial),(by first | rfl | trivial),(by first | rfl | trivial),(by first | rfl | trivial),fun B _=> .of_eq rfl⟩)
    | deep z=>exact .inr (.inl ⟨z.holed,(by first | rfl | trivial),(by first | rfl | trivial),(by first | rfl | trivial),(by first | rfl | trivial),fun B _=> .of_eq rfl⟩)
    | shared z=>simp
    | dead=>rfl
    | set z=>exact .inr ⟨z,(by first | rfl | trivial),(by first | rfl | trivial)⟩
 refine R.of_move (.refl _) hm (fun _ _=>rfl) (.refl _) (fun b cs hb=> ?_) R.nobox (fun k' z hz=> ?_) (fun k' hk'=> ?_) ⟨fun k' z hz=> ?_,fun k' j B h=> ?_,fun k' j B h=>R.deeps.blk _ _ _ (hinn _ _ _ h).2,fun q j q' j' B h h'=>R.deeps.inj _ _ _ _ _ (hinn _ _ _ h).2 (hinn _ _ _ h').2,fun q j k' B h=>R.deeps.own _ _ _ _ (hinn _ _ _ h).2,fun q j b B h=>R.deeps.box _ _ _ _ (hinn _ _ _ h).2⟩ R.ownb R.boxb R.injo R.injb R.dis
 ·obtain ⟨B,c,T,h1,h2,h3,h4⟩:=R.boxes b cs hb
  refine ⟨B,c,T,h1,h2,h3,fun j hj=> ?_⟩
  obtain ⟨u,hu,hr⟩:=h4 j hj
  exact ⟨u,hu,hr.move hm⟩
 ·by_cases e:k'=kl
  ·subst e
   rw [lk_same] at hz
   obtain rfl:=Option.some.inj hz
   exact ⟨e2,hrow⟩
  ·rw [lk_other e] at hz
   exact ⟨(R.ods k' z hz).1,fun B h=>((R.ods k' z hz).2 B h).ext hm.ext rfl⟩
 ·have e:k'≠kl:=by rintro rfl; rw [lk_same] at hk'; cases hk'
  exact R.noods k' (by rw [lk_other e] at hk'; exact hk')
 ·have e:k'≠kl:=by rintro rfl; rw [lk_same] at hz; cases hz
  rw [lk_other e] at hz
  obtain ⟨g1,g2,g3⟩:=R.deeps.ok k' z hz
  refine ⟨g1,g2,fun j hj=>⟨(g3 j hj).1,?_⟩⟩
  rcases (g3 j hj).2 with ⟨q1,q2⟩ | ⟨q1,⟨B,u,q2,q3,q4⟩,q5⟩
  ·exact .inl ⟨q1,by simp only [if_neg e]; exact q2⟩
  ·exact .inr ⟨q1,⟨B,u,q2,q3,by simp only [if_neg e]; exact q4⟩,fun B' h'=>(q5 B' (by simpa only [if_neg e] using h')).ext hm.ext rfl⟩
 ·obtain ⟨e,h⟩:=hinn _ _ _ h
  obtain ⟨z,h1,h2⟩:=R.deeps.only _ _ _ h
  exact ⟨z,by rw [lk_other e]; exact h1,h2⟩
theorem Stop.undeep (S:Stop P ty tb n draw fin' stop sus) (kl:Nat) {x:D} (y:D) (hk:lk st.lb kl=some (.deep x)) (he:EqvD x y)
 (h:stop k ⟨st.sl,st.bx,(kl,.owned y)::st.lb⟩):stop k st:=
 S.weak _ (fun cx m a w _ _ R=>⟨_,R.undeep hk he⟩) h
theorem Stop.share (S:Stop P ty tb n draw fin' stop sus) (j:Nat) {x:D} (hj:lk st.lb j=some (.owned x)) (h:stop k ⟨st.sl,st.bx,(j,.shared x)::st.lb⟩):stop k st:=
 S.weak _ (fun _ m _ _ _ _ R=>⟨_,R.share hj⟩) h
end
def eqvDs:List D→List D→Prop
 | [],[]=>True
 | x::r,y::s=>Eqv x y∧eqvDs r s
 | _,_=>False
def eqvArg:Arg→Arg→Prop
 | .c x,.c y=>Eqv x y
 | .agg l,.agg r=>eqvDs l r
 | .ptr l,.ptr r=>eqvDs l r
 | a,b=>a=b
def eqvArgs:List Arg→List Arg→Prop
 | [],[]=>True
 | x::r,y::s=>eqvArg x y∧eqvArgs r s
 | _,_=>False
theorem eqvDs_get:∀ {l r:List D},eqvDs l r→r.length=l.length∧∀ i,i<l.length→Eqv (l.getD i .undef) (r.getD i .undef)
 | [],[],_=>⟨rfl,fun i hi=>absurd hi (by simp)⟩
 | [],_::_,h=>h.elim
 | _::_,[],h=>h.elim
 | x::l,y::r,h=>by
  obtain ⟨g1,g2⟩:=eqvDs_get h.2
  refine ⟨by simp [g1],fun i hi=> ?_⟩
  cases i with
  | zero=>simpa using h.1
  | succ i=>simpa using g2 i (by simpa using hi)
theorem RArg.eqv {w:World} {S:Nat→Prop} {x y:Arg} {v:Value} (h:eqvArg x y) (hr:RArg w S x v):RArg w S y v:=by
 cases x with
 | c x=>cases y with
  | c y=>exact RD.eqv h hr
  | _=>cases h
 | agg l=>cases y with
  | agg r=>
   obtain ⟨vs,e,hsz,hc⟩:=hr
   obtain ⟨g1,g2⟩:=eqvDs_get h
   refine ⟨vs,e,by rw [g1]; exact hsz,fun i hi=> ?_⟩
   rw [g1] at hi
   obtain ⟨u,hu,hd⟩:=hc i hi
   exact ⟨u,hu,hd.eqv (g2 i hi)⟩
  | _=>cases h
 | ptr l=>cases y with
  | ptr r=>
   obtain ⟨g1,g2⟩:=eqvDs_get h
   exact Ptr.eqv g1.symm g2 hr
  | _=>cases h
 | clo f caps=>cases h; exact hr
theorem RArgs.eqv {w:World} {S:Nat→Prop}:∀ {l r:List Arg} {vs:List Value},eqvArgs l r→RArgs w S l vs→RArgs w S r vs
 | [],[],_,_,h=>h
 | [],_::_,_,h,_=>h.elim
 | _::_,[],_,h,_=>h.elim
 | _::_,_::_,[],_,h=>h.elim
 | _::_,_::_,_::_,h,hr=>⟨RArg.eqv h.1 hr.1,RArgs.eqv h.2 hr.2⟩
theorem Eqv.scalar {x y:D} (h:Eqv x y) (hs:y.scalar=true):x.scalar=true∧x=y:=by
 cases h with
 | refl d=>exact ⟨hs,rfl⟩
 | nil=>cases hs
 | sl=>cases hs
 | pnil=>cases hs
 | nlsl=>cases hs
 | pt=>cases hs
theorem EqvO.flat {x y:D} (h:EqvO x y) (hf:y.flat):x.flat:=by
 obtain ⟨h1,h2,h3,h4,h5⟩:=h
 intro i hi
 obtain ⟨g1,g2⟩:=h5 i hi
 have hy:=hf i (by omega)
 rw [List.all_eq_true] at hy ⊢
 intro d hd
 obtain ⟨j,hj⟩:=List.mem_iff_getElem?.1 hd
 have hlt:=(List.getElem?_eq_some_iff.1 hj).1
 have hq:=g2 j
 rw [List.getD_eq_getElem?_getD,hj,Option.getD_some] at hq
 refine (hq.scalar (hy _ ?_)).1
 rw [List.getD_eq_getElem?_getD,List.getElem?_eq_getElem (by rw [← g1]; exact hlt)]
 exact List.getElem_mem _
def cellOkE (al:Bool) (lb:Nat→Option Lab):AC→RC→Prop
 | .d y,.d x=>Eqv y x∧(al=true∨x.scalar=true)
 | .own k,.own x=>∃ z,lb k=some (.owned z)∧EqvO z x∧(al=true∨x.flat)
 | .own k,.d x=>(∃ z,lb k=some (.owned z)∧EqvO z x∧(al=true∨x.flat))∨(al=true∧∃ z,lb k=some (.shared z)∧Eqv z x)
 | .nils,.d x=>x.isSl=true∧x.len=0
 | .nils,.own x=>x.isSl=true∧x.len=0
 | .sptr l 0,.d x=>Eqv (.pt true l) x∧al=true
 | _,_=>False
def cellsOkE (al:Bool) (lb:Nat→Option Lab):List AC→List RC→Prop
 | [],[]=>True
 | c::cs,r::rs=>cellOkE al lb c r∧cellsOkE al lb cs rs
 | _,_=>False
def auOkE (al:Bool) (lb:Nat→Option Lab):AU→RV→Prop
 | .c c,.c r=>cellOkE al lb c r
 | .agg cs,.agg rs=>cellsOkE al lb cs rs
 | _,_=>False
def ausOkE (al:Bool) (lb:Nat→Option Lab):List AU→List RV→Prop
 | [],[]=>True
 | x::xs,r::rs=>auOkE al lb x r∧ausOkE al lb xs rs
 | _,_=>False
def eqvRC:RC→RC→Prop
 | .d x,.d y=>Eqv x y
 | .own x,.own y=>EqvO x y
 | _,_=>False
def eqvRCs:List RC→List RC→Prop
 | [],[]=>True
 | x::r,y::s=>eqvRC x y∧eqvRCs r s
 | _,_=>False
def eqvRV:RV→RV→Prop
 | .c x,.c y=>eqvRC x y
 | .agg l,.agg r=>eqvRCs l r
 | _,_=>False
def eqvRVs:List RV→List RV→Prop
 | [],[]=>True
 | x::r,y::s=>eqvRV x y∧eqvRVs r s
 | _,_=>False
theorem cell_e {al:Bool} {lb:Nat→Option Lab} {c:AC} {r:RC} (h:cellOkE al lb c r):∃ r',cellOk al lb c r'∧eqvRC r' r:=by
 cases c with
 | d y=>cases r with
  | d x=>exact ⟨.d y,⟨rfl,h.2.imp id (fun hs=>(h.1.scalar hs).1)⟩,h.1⟩
  | own x=>exact h.elim
 | own k=>cases r with
  | d x=>
   rcases h with ⟨z,h1,h2,h3⟩ | ⟨h1,z,h2,h3⟩
   ·exact ⟨.d z,.inl ⟨h1,h3.imp id (fun hf=>h2.flat hf)⟩,h2.eqv⟩
   ·exact ⟨.d z,.inr ⟨h1,h2⟩,h3⟩
  | own x=>
   obtain ⟨z,h1,h2,h3⟩:=h
   exact ⟨.own z,⟨h1,h3.imp id (fun hf=>h2.flat hf)⟩,h2⟩
 | nils=>cases r with
  | d x=>exact ⟨.d x,h,.refl _⟩
  | own x=>exact ⟨.own x,h,.refl h.1⟩
 | sptr l off=>
  cases off with
  | zero=>cases r with
   | d x=>exact ⟨.d (.pt true l),⟨rfl,h.2⟩,h.1⟩
   | own x=>exact h.elim
  | succ o=>cases r<;>exact h.elim
 | _=>cases r<;>exact h.elim
theorem cells_e {al:Bool} {lb:Nat→Option Lab}:∀ {cs:List AC} {rs:List RC},cellsOkE al lb cs rs→∃ rs',cellsOk al lb cs rs'∧eqvRCs rs' rs
 | [],[],_=>⟨[],trivial,trivial⟩
 | [],_::_,h=>h.elim
 | _::_,[],h=>h.elim
 | _::_,_::_,h=>by
  obtain ⟨r',h1,h2⟩:=cell_e h.1
  obtain ⟨rs',h3,h4⟩:=cells_e h.2
  exact ⟨r'::rs',⟨h1,h3⟩,⟨h2,h4⟩⟩
theorem au_e {al:Bool} {lb:Nat→Option Lab} {x:AU} {r:RV} (h:auOkE al lb x r):∃ r',auOk al lb x r'∧eqvRV r' r:=by
 cases x with
 | c x=>cases r with
  | c r=>obtain ⟨r',h1,h2⟩:=cell_e h; exact ⟨.c r',h1,h2⟩
  | agg r=>exact h.elim
 | agg x=>cases r with
  | c r=>exact h.elim
  | agg r=>obtain ⟨r',h1,h2⟩:=cells_e h; exact ⟨.agg r',h1,h2⟩
theorem aus_e {al:Bool} {lb:Nat→Option Lab}:∀ {cs:List AU} {rs:List RV},ausOkE al lb cs rs→∃ rs',ausOk al lb cs rs'∧eqvRVs rs' rs
 | [],[],_=>⟨[],trivial,trivial⟩
 | [],_::_,h=>h.elim
 | _::_,[],h=>h.elim
 | _::_,_::_,h=>by
  obtain ⟨r',h1,h2⟩:=au_e h.1
  obtain ⟨rs',h3,h4⟩:=aus_e h.2
  exact ⟨r'::rs',⟨h1,h3⟩,⟨h2,h4⟩⟩
theorem ownLabs_e:∀ {r s:List RC},eqvRCs r s→∀ cs,ownLabs cs r=ownLabs cs s∧shLabs cs r=shLabs cs s∧nOwn r=nOwn s
 | [],[],_,cs=>by cases cs<;>exact ⟨rfl,rfl,rfl⟩
 | [],_::_,h,_=>h.elim
 | _::_,[],h,_=>h.elim
 | x::r,y::s,h,[]=>by
  have:=(ownLabs_e h.2 []).2.2
  cases x<;>cases y<;>first | exact h.1.elim | exact ⟨rfl,rfl,by simpa [nOwn] using this⟩
 | x::r,y::s,h,c::cs=>by
  obtain ⟨h1,h2,h3⟩:=ownLabs_e h.2 cs
  cases x<;>cases y<;>first | exact h.1.elim | exact ⟨by simp [ownLabs,h1],by simp [shLabs,h2],by simp [nOwn,h3]⟩
theorem rvCells_e {r s:RV} (h:eqvRV r s):eqvRCs r.cells s.cells:=by
 cases r<;>cases s<;>first | exact h.elim | exact h | exact ⟨h,trivial⟩
theorem ownAll_e:∀ {r s:List RV},eqvRVs r s→∀ xs,ownAll xs r=ownAll xs s∧shAll xs r=shAll xs s
 | [],[],_,xs=>⟨rfl,rfl⟩
 | [],_::_,h,_=>h.elim
 | _::_,[],h,_=>h.elim
 | x::r,y::s,h,[]=>⟨rfl,rfl⟩
 | x::r,y::s,h,c::cs=>by
  obtain ⟨h1,h2⟩:=ownAll_e h.2 cs
  obtain ⟨g1,g2,_⟩:=ownLabs_e (rvCells_e h.1) c.cells
  exact ⟨by simp [ownAll,h1,g1],by simp [shAll,h2,g2]⟩
theorem rrcs_e {w:World} {S:Nat→Prop} {own:Nat→Option Nat}:∀ {r s:List RC} {j:Nat} {vs:List Value},eqvRCs r s→RRcs w S own j r vs→RRcs w S own j s vs
 | [],[],_,_,_,h=>h
 | [],_::_,_,_,h,_=>h.elim
 | _::_,[],_,_,h,_=>h.elim
 | .d x::r,.d y::s,j,[],_,hr=>hr.elim
 | .own x::r,.own y::s,j,[],_,hr=>hr.elim
 | .d x::r,.d y::s,j,v::vs,h,hr=>⟨RD.eqv h.1 hr.1,rrcs_e h.2 hr.2⟩
 | .own x::r,.own y::s,j,v::vs,h,hr=>⟨⟨h.1.2.1,Hdl.eqv h.1 hr.1.2.1,fun B hB=>Row.eqv h.1 (hr.1.2.2 B hB)⟩,rrcs_e h.2 hr.2⟩
 | .d x::r,.own y::s,j,_,h,_=>h.1.elim
 | .own x::r,.d y::s,j,_,h,_=>h.1.elim
theorem rrv_e {w:World} {S:Nat→Prop} {own:Nat→Option Nat} {j:Nat} {r s:RV} {v:Value} (h:eqvRV r s) (hr:RRv w S own j r v):RRv w S own j s v:=by
 cases r<;>cases s<;>first | exact h.elim | skip
 ·exact rrcs_e (r:=[_]) (s:=[_]) ⟨h,trivial⟩ hr
 ·obtain ⟨vs,e,h2⟩:=hr
  exact ⟨vs,e,rrcs_e h h2⟩
theorem rrvs_e {w:World} {S:Nat→Prop} {own:Nat→Option Nat}:∀ {r s:List RV} {j:Nat} {vs:List Value},eqvRVs r s→RRvs w S own j r vs→RRvs w S own j s vs
 | [],[],_,_,_,h=>h
 | [],_::_,_,_,h,_=>h.elim
 | _::_,[],_,_,h,_=>h.elim
 | _::_,_::_,_,[],_,hr=>hr.elim
 | x::r,y::s,j,v::vs,h,hr=>⟨rrv_e h.1 hr.1,by
  have:=(ownLabs_e (rvCells_e h.1) []).2.2
  rw [← this]
  exact rrvs_e h.2 hr.2⟩
theorem rres_e {w:World} {S:Nat→Prop} {own:Nat→Option Nat} {r s:List RV} {v:Value} (h:eqvRVs r s) (hr:RRes w S own r v):RRes w S own s v:=by
 match r,s,h with
 | [],[],_=>exact hr
 | [x],[y],h=>exact rrv_e h.1 hr
 | x::x'::r,y::y'::s,h=>
  obtain ⟨vs,e,h2⟩:=hr
  exact ⟨vs,e,rrvs_e h h2⟩
 | [],_::_,h=>exact h.elim
 | _::_,[],h=>exact h.elim
 | [_],_::_::_,h=>exact h.2.elim
 | _::_::_,[_],h=>exact h.2.elim
def finE (ty:Tys) (fn:List ResultVar) (al:Bool) (rs:List RV) (st:St):Prop:=
 (retAll ty st fn).1∧ausOkE al (lk st.lb) (retAll ty st fn).2 rs∧((ownAll (retAll ty st fn).2 rs).filterMap id).Nodup∧∀ k∈shAll (retAll ty st fn).2 rs,k∉(ownAll (retAll ty st fn).2 rs).filterMap id
theorem valid_of {P:Program} {ty:Tys} {tb:Fns} {f:Nat} {fn:Func} {c:Code} {sp:FSpec} {n:Nat} (hty:TyOk P ty) (htb:FnsOk P tb) (hf:P.funcs[f]? =some fn) (hb:fn.body=some c) (hn:fn.ntmps=n)
 (nrm:List Arg→List Arg) (h:∀ args,sp.pre args→eqvArgs args (nrm args)∧(nrm args).length≤n∧∀ stop,Stop P ty tb n (drawn ty tb n) (onlyEnd (finE ty fn.results.toList sp.alias (sp.res args))) stop→stop [.code c] (St.begin (nrm args))):Valid P f sp:=by
 refine valid_of_ar hty htb hf hb hn (fun cx e=>drawn_ok hty htb cx e) (fun args=>finE ty fn.results.toList sp.alias (sp.res args)) ?_ nrm (fun args w S vs hp hr=>RArgs.eqv (h args hp).1 hr) (fun args hp=>(h args hp).2.2) (fun args hp=>(h args hp).2.1)
 intro args cx st m a w hp R hfin
 obtain ⟨h1,h2,h3,h4⟩:=hfin
 obtain ⟨rs',g1,g2⟩:=aus_e h2
 obtain ⟨e1,e2⟩:=ownAll_e g2 (retAll ty st fn.results.toList).2
 obtain ⟨v,k1,k2⟩:=fin_left (P:=P) hty R (fn:=fn) (sp:= { sp with res:=fun _=>rs' }) (args:=args) ⟨h1,g1,by rw [e1]; exact h3,by rw [e1,e2]; exact h4⟩
 obtain ⟨own,q1,q2,q3⟩:=k2.res
 exact ⟨v,k1,⟨k2.env,k2.size,k2.old,own,q1,q2,rres_e g2 q3⟩⟩
theorem eqv_self (d:D):Eqv d d=True:=eq_true (.refl d)
theorem eqv_int {j k:IntKind} {a b:Int}:Eqv (.int j a) (.int k b)=(j=k∧a=b):=by
 refine propext ⟨fun h=> ?_,fun ⟨h1,h2⟩=>by subst h1; subst h2; exact .refl _⟩
 cases h; exact ⟨rfl,rfl⟩
theorem eqv_bool {a b:Bool}:Eqv (.bool a) (.bool b)=(a=b):=by
 refine propext ⟨fun h=> ?_,fun h2=>by subst h2; exact .refl _⟩
 cases h; rfl
attribute [go_sem] cellOkE cellsOkE auOkE ausOkE finE eqv_self eqv_int eqv_bool Sees zipR eqvAV eqvAC eqvACs eqvLab eqvMD eqvDs eqvArg eqvArgs
end Go.Abs
set_option linter.unusedVariables false
set_option linter.unusedSimpArgs false
namespace Go.Abs
def capAV:Cap→AV
 | .ref b off=> .c (.ref b off)
 | .sptr l off=> .c (.sptr l off)
def inSl:Nat→List AV→List (Nat×AV)
 | _,[]=>[]
 | i,v::r=>(i,v)::inSl (i+1) r
def keptSl (sl:List (Nat×AV)):List Nat→List (Nat×AV)
 | []=>[]
 | t::r=>match lk sl t with
  | some v=>(t,v)::keptSl sl r
  | none=>keptSl sl r
def retAV:List AU→AV
 | [x]=> .u x
 | l=> .tup l
def snds:List (Nat×AV)→List AV
 | []=>[]
 | p::r=>p.2::snds r
theorem snds_map:∀ l,snds l=l.map (·.2)
 | []=>rfl
 | p::r=>by simp [snds,snds_map r]
theorem evIdx_mid (ty:Tys) (tb:Fns) (nt:Nat) (ops:List Oper):∀ (r p q:List Oper) (st:St),ops=p++r++q→evIdx ty tb nt ops ((List.range r.length).map (p.length+ ·)) st=evSeq ty tb nt (ops.map (·.dst)) r st
 | [],p,q,st,_=>rfl
 | o::r,p,q,st,h=>by
  have hl:(List.range (o::r).length).map (p.length+ ·)=p.length::(List.range r.length).map ((p++[o]).length+ ·):=by
   rw [List.length_cons,List.range_succ_eq_map,List.map_cons,List.map_map]
   simp only [List.length_append,List.length_singleton,Nat.add_zero]
   congr 1
   apply List.map_congr_left
   intro x _
   simp; omega
  have ho:ops[p.length]? =some o:=by rw [h,List.append_assoc,List.getElem?_append_right (Nat.le_refl _)]; simp
  rw [hl]
  simp only [evIdx,ho,evSeq]
  rw [evIdx_mid ty tb nt ops r (p++[o]) q _ (by rw [h]; simp)]
section
variable {P:Program} {ty:Tys} {tb:Fns} {cx:Cx} {st:St} {m m1 m':Mp} {a:Act} {w w':World} {o:Oper} {out:Out} {ws:List Wr}
theorem ops_app {ρ:Option Nat} (hty:TyOk P ty) (htb:FnsOk P tb) {ops:Array Oper} {Q:Exit→Act→World→Prop} {l':List Nat} (l:List Nat):∀ (st:St) (m:Mp) (a:Act) (w:World),Rel cx st m a w→(evIdx ty tb cx.nt ops.toList l st).1→
 (∀ m' a' w',Rel cx (evIdx ty tb cx.nt ops.toList l st).2 m' a' w'→wpOpsIn (FR ρ) 0 P ops Q l' a' w')→wpOpsIn (FR ρ) 0 P ops Q (l++l') a w:=by
 induction l with
 | nil=>intro st m a w R _ h; exact h m a w R
 | cons i l ih=>
  intro st m a w R h1 h2
  simp only [List.cons_append,wpOpsIn]
  simp only [evIdx,Array.getElem?_toList] at h1 h2
  cases ho:ops[i]? with
  | none=>simp only [ho] at h1 h2; exact ih st m a w R h1 h2
  | some o=>
   simp only [ho] at h1 h2
   exact step_good hty htb R h1.1 (fun m' a' w' R'=>ih _ m' a' w' R' h1.2 h2)
theorem ret_run (hty:TyOk P ty) (R:Rel cx st m a w) {fn:Func} (h:(retAll ty st fn.results.toList).1) :
 ∃ v,(results fn a.tmps).run P w= .ok v w∧RA cx m w (lk st.lb) (retAV (retAll ty st fn.results.toList).2) v:=by
 obtain ⟨vs,g1,g2,g3,g4⟩:=retAll_run (P:=P) hty R h
 have hrun:(fn.results.mapM (resSem a.tmps)).run P w= .ok vs.toArray w:=by
  rw [Array.mapM_eq_mapM_toList]
  simp only [Sem.run_map,g1,Result.andThen_ok]
 refine ⟨_,by rw [results_eq,Sem.run_bind,hrun]; rfl,?_⟩
 rw [← g3] at g2 g4
 generalize (retAll ty st fn.results.toList).2=xs at*
 match xs,vs,g2,g4 with
 | [x],[v],_,g4=>
  obtain ⟨u,hu,hr⟩:=g4 0 (by simp)
  obtain rfl:v=u:=by simpa using hu
  exact hr
 | [],[],_,_=>exact ⟨#[],rfl,rfl,fun i hi=>absurd hi (by simp)⟩
 | x::y::r,vs,g2,g4=>
  rw [dif_neg (by simp [g2])]
  exact ⟨vs.toArray,rfl,by simpa using g2,fun i hi=>by
   obtain ⟨u,hu,hr⟩:=g4 i hi
   exact ⟨u,by simpa using hu,hr⟩⟩
 | [_],[],h,_=>cases h
 | [_],_::_::_,h,_=>simp at h
 | [],_::_,h,_=>cases h
theorem lk_inSl:∀ {l:List AV} {i t:Nat} {v:AV},lk (inSl i l) t=some v→∃ j,l[j]? =some v∧t=i+j
 | [],_,_,_,h=>by cases h
 | x::r,i,t,v,h=>by
  simp only [inSl,lk] at h
  split at h
  ·rename_i e
   obtain rfl:=Option.some.inj h
   exact ⟨0,rfl,by omega⟩
  ·obtain ⟨j,h1,h2⟩:=lk_inSl h
   exact ⟨j+1,by simpa using h1,by omega⟩
theorem lk_kept:∀ {sl:List (Nat×AV)} {ts:List Nat} {t:Nat} {v:AV},lk (keptSl sl ts) t=some v→lk sl t=some v∧(t,v)∈keptSl sl ts
 | sl,[],_,_,h=>by cases h
 | sl,t0::r,t,v,h=>by
  simp only [keptSl] at h ⊢
  split at h
  ·rename_i u hu
   simp only [lk] at h
   split at h
   ·rename_i e; subst e; obtain rfl:=Option.some.inj h
    exact ⟨hu,by simp⟩
   ·obtain ⟨h1,h2⟩:=lk_kept h
    exact ⟨h1,List.mem_cons_of_mem _ h2⟩
  ·rename_i hu
   obtain ⟨h1,h2⟩:=lk_kept h
   exact ⟨h1,h2⟩
theorem mem_kept:∀ {sl:List (Nat×AV)} {ts:List Nat} {p:Nat×AV},p∈keptSl sl ts→lk sl p.1=some p.2
 | sl,[],_,h=>by cases h
 | sl,t0::r,p,h=>by
  simp only [keptSl] at h
  split at h
  ·rename_i u hu
   rcases List.mem_cons.1 h with rfl | h
   ·exact hu
   ·exact mem_kept h
  ·exact mem_kept h
theorem valsOf_map (st:St):∀ l:List Operand,valsOf st l=l.map (valOf st)
 | []=>rfl
 | x::r=>by simp [valsOf,valsOf_map st r]
def inlFin (ty:Tys) (rs:List ResultVar) (stop:List K→St→Prop) (k:List K) (kept:List (Nat×AV)) (dst:Option Nat) (s:St):Prop:=
 (retAll ty s rs).1∧stop k ((⟨kept,s.bx,s.lb⟩:St).done dst ⟨True,retAV (retAll ty s rs).2,[]⟩)
def inlG (P:Program) (ty:Tys) (tb:Fns) (n':Nat) (draw':List Oper→St→Prop) (stop:List K→St→Prop) (k:List K) (sus:List AV) (ts:List Nat) (dst:Option Nat) (g:Nat) (caps:List Cap) (rs:List ResultVar) (c:Code) (x:Operand) (args:List Operand):Prop×St→Prop
 | (p,st1)=>p∧valOf st1 x= .u (.c (.clo g caps))∧∀ stop',Stop P ty tb n' draw' (onlyEnd (inlFin ty rs stop k (keptSl st1.sl ts) dst)) stop' (sus++snds (keptSl st1.sl ts))→stop' [.code c] ⟨inSl 0 (valsOf st1 args++caps.map capAV),st1.bx,st1.lb⟩
theorem marks_nil {cx:Cx} {w:World}:Marks cx w [] []:=⟨rfl,List.nodup_nil,(fun _ h=>by cases h),(fun _ h=>by cases h),(fun _ h=>by cases h)⟩
theorem recs_app (R:Rel cx st m a w) {Ds:List Nat} (hm:Marks cx w a.defers Ds):∀ p,p∈cx.recs++Ds.map (fun D=>(D,Obj.deferred (some [])))→cx.w0.heap.size≤p.1∧w.heap[p.1]? =some p.2∧NoCells p.2:=by
 intro p hp
 rcases List.mem_append.1 hp with hp | hp
 ·exact R.recs p hp
 ·obtain ⟨D,hD,rfl⟩:=List.mem_map.1 hp
  exact ⟨hm.lo D hD,hm.here D hD,fun _ _ _ e=>(by cases e),fun _ _ e=>(by cases e)⟩
theorem marks_back {cx cx':Cx} {st:St} {m:Mp} {a a1:Act} {w w1:World} (R:Rel cx' st m a w) {Ds:List Nat} (hm:Marks cx w1 a1.defers Ds) {L:List (Nat×Obj)} (hL:cx'.recs=cx.recs++Ds.map (fun D=>(D,Obj.deferred (some [])))++L:=by simp):Marks cx w a1.defers Ds:=
 { hm with here:=fun D hD=>(R.recs (D,.deferred (some [])) (by rw [hL]; exact List.mem_append.2 (.inl (List.mem_append.2 (.inr (List.mem_map.2 ⟨D,hD,rfl⟩)))))).2.1 }
end
attribute [go_sem] valsOf capAV inSl keptSl retAV snds inlFin inlG restIx hasN List.take_append_drop onlyEnd onlyOff
end Go.Abs
set_option linter.unusedVariables false
set_option linter.unusedSimpArgs false
namespace Go.Abs
def encF {α:Type} [Inhabited α] (s:Nat) (f:α→List D) (l:List α):D:= .sl s l.length (fun i=>f (l.getD i default))
def decF {α:Type} (g:List D→α) (x:D):List α:=(List.range x.len).map fun i=>g (x.nth i)
def iD:List D→Int | [.int _ n]=>n | _=>0
def dI (n:Int):List D:=[.int .i64 n]
def eI (l:List Int):D:=encF 1 dI l
structure TSpec (α:Type) where
 enc:α→List Arg
 dec:List Arg→α
 pre:α→Prop
 res:α→List RV
 al:Bool:=false
def TSpec.sp {α:Type} (T:TSpec α):FSpec:=⟨fun a=>eqvArgs a (T.enc (T.dec a))∧T.pre (T.dec a),fun a=>T.res (T.dec a),T.al⟩
theorem valid_t {α:Type} {P:Program} {ty:Tys} {tb:Fns} {f:Nat} {fn:Func} {c:Code} {T:TSpec α} {n:Nat} (hty:TyOk P ty) (htb:FnsOk P tb) (hf:P.funcs[f]? =some fn) (hb:fn.body=some c) (hn:fn.ntmps=n)
 (h:∀ x,T.pre x→(T.enc x).length≤n∧∀ stop,Stop P ty tb n (drawn ty tb n) (onlyEnd (finE ty fn.results.toList T.al (T.res x))) stop→stop [.code c] (St.begin (T.enc x))):Valid P f T.sp:=
 valid_of hty htb hf hb hn (fun a=>T.enc (T.dec a)) (fun _ ha=>⟨ha.1,(h _ ha.2).1,(h _ ha.2).2⟩)
theorem valid_no {α:Type} {P:Program} {f:Nat} {T:TSpec α} (h:∀ x,¬ T.pre x):Valid P f T.sp:=
 fun S0 w args vs h1 h2 h3 h4=>absurd h4.2 (h _)
theorem FnsOk.nil {P:Program}:FnsOk P (lk []):=fun _ _ h=>by cases h
theorem FnsOk.cons {P:Program} {l:List (Nat×FSpec)} {f:Nat} {sp:FSpec} (hx:FnFact P f sp) (h:FnsOk P (lk l)):FnsOk P (lk ((f,sp)::l)):=fun g s hs=>by
 simp only [lk] at hs
 split at hs
 ·rename_i e; subst e; obtain rfl:=Option.some.inj hs; exact hx
 ·exact h g s hs
theorem encF_len {α:Type} [Inhabited α] (s:Nat) (f:α→List D) (l:List α):(encF s f l).len=l.length:=rfl
theorem encF_stride {α:Type} [Inhabited α] (s:Nat) (f:α→List D) (l:List α):(encF s f l).stride=s:=rfl
theorem encF_nth {α:Type} [Inhabited α] (s:Nat) (f:α→List D) (l:List α) (i:Nat):(encF s f l).nth i=f (l.getD i default):=rfl
theorem encF_isSl {α:Type} [Inhabited α] (s:Nat) (f:α→List D) (l:List α):(encF s f l).isSl=true:=rfl
theorem decF_encF {α:Type} [Inhabited α] (g:List D→α) (s:Nat) (f:α→List D) (l:List α) (h:∀ a,g (f a)=a):decF g (encF s f l)=l:=by
 simp only [decF,encF_len,encF_nth,h]
 apply List.ext_getElem (by simp)
 intro i h1 h2
 simp [List.getD_eq_getElem?_getD,h2]
theorem decF_ofList {α:Type} (g:List D→α) (s:Nat) (l:List (List D)):decF g (D.ofList s l)=l.map g:=by
 simp only [decF,D.ofList,D.len,D.nth]
 apply List.ext_getElem (by simp)
 intro i h1 h2
 simp at h2
 simp [List.getD_eq_getElem?_getD,h2]
theorem iD_dI (n:Int):iD (dI n)=n:=rfl
theorem dec_eI (l:List Int):decF iD (eI l)=l:=decF_encF _ _ _ _ iD_dI
theorem eqv_ofList {α:Type} [Inhabited α] {s:Nat} {f:α→List D} {l:List (List D)} {r:List α} (h:l=r.map f):Eqv (D.ofList s l) (encF s f r):=by
 subst h
 refine EqvO.eqv (EqvO.of_nth rfl rfl rfl (by simp [D.ofList,D.len,encF]) (fun i hi=> ?_))
 simp only [D.ofList,D.len,List.length_map] at hi
 simp [D.ofList,D.nth,encF,List.getD_eq_getElem?_getD,hi]
attribute [go_sem] List.map_cons List.map_nil true_and and_true beq_iff_eq implies_true imp_self or_true true_or or_false false_or and_self List.append_nil List.nil_append List.cons_append List.filterMap_nil List.filterMap_cons Option.toList_none Option.toList_some List.nodup_nil List.not_mem_nil List.length_cons List.length_nil List.getD_cons_zero List.getD_cons_succ not_false_eq_true false_implies true_implies cond_true cond_false List.zip_cons_cons List.zip_nil_left
attribute [go_sem] List.getElem?_cons_zero List.getElem?_cons_succ List.getElem?_nil List.all_cons List.all_nil Bool.and_true Bool.true_and Bool.and_self Bool.and_false Bool.false_and List.drop_zero List.drop_succ_cons List.drop_nil List.take_zero List.take_succ_cons List.take_nil and_false false_and Nat.zero_add List.getD_nil Nat.add_zero List.foldl_cons List.foldl_nil
theorem bif_and (a b:Bool):(bif a then b else false)=(a && b):=by cases a<;>rfl
theorem bif_or (a b:Bool):(bif a then true else b)=(a || b):=by cases a<;>rfl
theorem bne_true_iff (a b:Int):((a != b)=true)=(a≠b):=by simp
theorem bne_false_iff (a b:Int):((a != b)=false)=(a=b):=by simp
theorem dec_true_iff (p:Prop) [Decidable p]:(decide p=true)=p:=by simp
theorem dec_false_iff (p:Prop) [Decidable p]:(decide p=false)=¬p:=by simp
attribute [go_sem] bif_and bif_or bne_true_iff bne_false_iff dec_true_iff dec_false_iff Int.toNat_natCast
theorem eqv_ofList_true {α:Type} [Inhabited α] {s:Nat} {f:α→List D} {l:List (List D)} {r:List α} (h:l=r.map f):Eqv (D.ofList s l) (encF s f r)=True:=eq_true (eqv_ofList h)
attribute [go_sem] eqv_ofList_true drawn encF_len encF_stride encF_nth encF_isSl dI dec_eI decF_ofList iD
end Go.Abs
set_option linter.unusedVariables false
set_option linter.unusedSimpArgs false
namespace Go.Abs
inductive Ctl (σ ρ:Type) where
 | next (s:σ)
 | out (r:Option ρ)
def iterC {σ ρ:Type} (B:σ→Ctl σ ρ):Nat→σ→Option ρ
 | 0,_=>none
 | n+1,s=>match B s with
  | .next s'=>iterC B n s'
  | .out r=>r
def goodC {σ ρ:Type} (nx:σ→Prop) (G:ρ→Prop):Ctl σ ρ→Prop
 | .next s=>nx s
 | .out (some q)=>G q
 | .out none=>False
def bindC {α σ ρ:Type} (o:Option α) (f:α→Ctl σ ρ):Ctl σ ρ:=
 match o with
 | none=> .out none
 | some v=>f v
section
variable {α σ ρ:Type} {nx:σ→Prop} {G:ρ→Prop}
theorem of_guard0 {p:Prop} [Decidable p] {a:Option ρ} {r:ρ} (h:(if p then a else none)=some r):p∧a=some r:=by
 split at h
 ·exact ⟨‹_›,h⟩
 ·cases h
theorem of_bind0 {o:Option α} {f:α→Option ρ} {r:ρ} (h:o.bind f=some r):∃ v,o=some v∧f v=some r:=by
 cases o with
 | none=>cases h
 | some v=>exact ⟨v,rfl,h⟩
theorem of_guard1 {p:Prop} [Decidable p] {a:Ctl σ ρ} (h:goodC nx G (if p then a else .out none)):p∧goodC nx G a:=by
 split at h
 ·exact ⟨‹_›,h⟩
 ·exact h.elim
theorem of_bind1 {o:Option α} {f:α→Ctl σ ρ} (h:goodC nx G (bindC o f)):∃ v,o=some v∧goodC nx G (f v):=by
 cases o with
 | none=>exact h.elim
 | some v=>exact ⟨v,rfl,h⟩
theorem of_out0 {E:Option ρ} {r:ρ} (h:goodC nx (fun q=>q=r) (.out E)):E=some r:=by
 cases E with
 | none=>exact h.elim
 | some q=>exact congrArg some h
theorem goodC_out {q:ρ} (h:goodC nx G (.out (some q))):G q:=h
theorem of_iter1 {E:Option (Ctl σ ρ)} (h:goodC nx G (E.getD (.out none))):∃ q,E=some q∧goodC nx G q:=by
 cases E with
 | none=>exact h.elim
 | some q=>exact ⟨q,rfl,h⟩
end
section
variable {P:Program} {ty:Tys} {tb:Fns} {n:Nat} {draw:List Oper→St→Prop} {fin':Jmp→St→Prop} {stop:List K→St→Prop} {k:List K} {st:St} {sus:List AV}
theorem Stop.iter (S:Stop P ty tb n draw fin' stop sus) {c:Code} {σ ρ:Type} (head:σ→St) (B:σ→Ctl σ ρ) (G:ρ→Prop) {fuel:Nat} {s:σ} {q:ρ} (hq:iterC B fuel s=some q) (hG:G q)
 (round:∀ s,goodC (fun s'=>stop (.lp c::k) (head s')) G (B s)→stop (.code c:: .lp c::k) (head s)):stop (.lp c::k) (head s):=by
 induction fuel generalizing s with
 | zero=>cases hq
 | succ m ih=>
  simp only [iterC] at hq
  refine S.lp (round s ?_)
  cases hB:B s with
  | next s'=>rw [hB] at hq; exact ih hq
  | out r=>rw [hB] at hq; subst hq; exact hG
end
section
variable {α:Type} [Inhabited α] {s:Nat} {f:α→List D} {g:List D→α}
theorem Eqv.trans {a b c:D} (h:Eqv a b) (k:Eqv b c):Eqv a c:=by
 induction h generalizing c with
 | refl d=>exact k
 | nil s s' g g'=>
  cases k with
  | refl=>exact .nil _ _ _ _
  | nil=>exact .nil _ _ _ _
  | sl s n g g' hl he=>exact .nil _ _ _ _
 | sl s n g g' hl he ih=>
  cases k with
  | refl=>exact .sl _ _ _ _ hl he
  | nil=>exact .nil _ _ _ _
  | sl _ _ _ g2 hl2 he2=>exact .sl _ _ _ _ (fun i hi=>(hl i hi).trans (hl2 i hi)) (fun i j hi hj=>ih i j hi hj (he2 i j hi hj))
 | pnil l l'=>
  cases k with
  | refl=>exact .pnil _ _
  | pnil=>exact .pnil _ _
  | pt=>exact .pnil _ _
 | nlsl s g=>
  cases k with
  | refl=>exact .nlsl _ _
  | nil=>exact .nlsl _ _
  | sl=>exact .nlsl _ _
 | pt b l l' hl he ih=>
  cases k with
  | refl=>exact .pt _ _ _ hl he
  | pnil=>exact .pnil _ _
  | pt _ _ l2 hl2 he2=>exact .pt _ _ _ (hl.trans hl2) (fun j hj=>ih j hj (he2 j (by rw [← hl]; exact hj)))
def likeDs (x y:List D):Prop:=x.length=y.length∧∀ j:Nat,Eqv (x.getD j .undef) (y.getD j .undef)
theorem likeDs.refl (x:List D):likeDs x x:=⟨rfl,fun _=> .refl _⟩
theorem likeDs_of:∀ {x y:List D},eqvDs x y→likeDs x y
 | [],[],_=> .refl _
 | [],_::_,h=>h.elim
 | _::_,[],h=>h.elim
 | a::x,b::y,h=>by
  obtain ⟨h1,h2⟩:=likeDs_of h.2
  refine ⟨by simp [h1],fun j=> ?_⟩
  cases j with
  | zero=>simpa using h.1
  | succ j=>simpa using h2 j
def eqvLL:List (List D)→List (List D)→Prop
 | [],[]=>True
 | x::r,y::s=>eqvDs x y∧eqvLL r s
 | _,_=>False
theorem eqvLL_get:∀ {x y:List (List D)},eqvLL x y→x.length=y.length∧∀ i:Nat,likeDs (x.getD i []) (y.getD i [])
 | [],[],_=>⟨rfl,fun _=> .refl _⟩
 | [],_::_,h=>h.elim
 | _::_,[],h=>h.elim
 | a::x,b::y,h=>by
  obtain ⟨h1,h2⟩:=eqvLL_get h.2
  refine ⟨by simp [h1],fun j=> ?_⟩
  cases j with
  | zero=>simpa using likeDs_of h.1
  | succ j=>simpa using h2 j
def Can (s:Nat) (f:α→List D) (l:List α) (d:D):Prop:=d.isSl=true∧d.stride=s∧d.len=l.length∧∀ i,i<l.length→likeDs (d.nth i) (f (l.getD i default))
def CanW (f:α→List D) (l:List α) (d:D):Prop:=d.len=l.length∧∀ i,i<l.length→likeDs (d.nth i) (f (l.getD i default))
theorem Can.w {l:List α} {d:D} (h:Can s f l d):CanW f l d:=h.2.2
theorem eqvO_can {l:List α} {d:D} (h:Can s f l d):EqvO d (encF s f l)=True:=
 eq_true ⟨h.1,rfl,h.2.1,h.2.2.1,fun i hi=>h.2.2.2 i (by rw [← h.2.2.1]; exact hi)⟩
theorem eqv_can {l:List α} {d:D} (h:Can s f l d):Eqv d (encF s f l)=True:=eq_true (EqvO.eqv (of_eq_true (eqvO_can h)))
theorem can_enc (l:List α):Can s f l (encF s f l)=True:=eq_true ⟨rfl,rfl,rfl,fun _ _=> .refl _⟩
theorem canW_enc {s':Nat} (l:List α):CanW f l (encF s' f l)=True:=eq_true ⟨rfl,fun _ _=> .refl _⟩
theorem can_ofList {l:List α} {cs:List (List D)} (h:eqvLL cs (l.map f)):Can s f l (D.ofList s cs)=True:=by
 obtain ⟨h1,h2⟩:=eqvLL_get h
 refine eq_true ⟨rfl,rfl,by simpa [D.ofList,D.len] using h1,fun i hi=> ?_⟩
 have:=h2 i
 simpa [D.ofList,D.nth,List.getD_eq_getElem?_getD,hi] using this
theorem canW_ofList {s':Nat} {l:List α} {cs:List (List D)} (h:eqvLL cs (l.map f)):CanW f l (D.ofList s' cs)=True:=eq_true (Can.w (of_eq_true (can_ofList (s:=s') h)))
theorem can_nil (k:Nat→List D):Can s f ([]:List α) (.sl s 0 k)=True:=eq_true ⟨rfl,rfl,rfl,fun i hi=>absurd hi (by simp)⟩
theorem canW_nil {s':Nat} (k:Nat→List D):CanW f ([]:List α) (.sl s' 0 k)=True:=eq_true ⟨rfl,fun i hi=>absurd hi (by simp)⟩
theorem canW_cat {l r:List α} {x y:D} (hx:CanW f l x) (hy:CanW f r y):CanW f (l++r) (D.cat x y):=by
 refine ⟨by simp [D.cat,D.len]; rw [← hx.1, ← hy.1]; rfl,fun i hi=> ?_⟩
 have hn:(D.cat x y).nth i=if i<x.len then x.nth i else y.nth (i - x.len):=rfl
 rw [hn,hx.1]
 simp only [List.length_append] at hi
 split
 ·rename_i h
  have:=hx.2 i h
  simpa [List.getD_eq_getElem?_getD,List.getElem?_append_left h,h] using this
 ·rename_i h
  have:=hy.2 (i - l.length) (by omega)
  simpa [List.getD_eq_getElem?_getD,List.getElem?_append_right (Nat.le_of_not_lt h)] using this
theorem can_cat {l r:List α} {x y:D} (hx:Can s f l x) (hy:CanW f r y):Can s f (l++r) (D.cat x y)=True:=
 eq_true ⟨rfl,hx.2.1,canW_cat hx.w hy⟩
theorem can_cat0 {r:List α} {x y:D} (hx:Can s f ([]:List α) x) (hy:CanW f r y):Can s f r (D.cat x y)=True:=
 eq_true ⟨rfl,hx.2.1,by have h9:=canW_cat hx.w hy; rw [List.nil_append] at h9; exact h9⟩
theorem likeDs.splice {x y:List D} (h:likeDs x y) (o:Nat) (c:List D):likeDs (splice x o c) (splice y o c):=by
 obtain ⟨h1,h2⟩:=h
 refine ⟨by simp [Go.Abs.splice,h1],fun j=> ?_⟩
 have hg:∀ z:List D,(Go.Abs.splice z o c).getD j .undef=if j<min o z.length then z.getD j .undef else if j<min o z.length+c.length then c.getD (j - min o z.length) .undef else z.getD (o+c.length+(j - (min o z.length+c.length))) .undef:=by
  intro z
  simp only [Go.Abs.splice,List.getD_eq_getElem?_getD,List.append_assoc,List.getElem?_append,List.length_take,List.getElem?_take,List.getElem?_drop]
  split
  ·rename_i hh; rw [if_pos (by omega)]
  ·rename_i hh
   split
   ·rename_i h3; rw [if_pos (by omega)]
   ·rename_i h3; rw [if_neg (by omega)]; congr 3; omega
 rw [hg x,hg y,h1]
 split
 ·exact h2 j
 ·split
  ·exact .refl _
  ·exact h2 _
theorem can_set {l:List α} {x:D} {i o:Nat} {c:List D} {a:α} (hx:Can s f l x) (hc:eqvDs (splice (f (l.getD i default)) o c) (f a)):Can s f (l.set i a) (x.setAt i o c)=True:=by
 refine eq_true ⟨rfl,hx.2.1,by simp only [D.setAt,D.len,List.length_set]; exact hx.2.2.1,fun j hj=> ?_⟩
 have hn:(x.setAt i o c).nth j=if j=i then splice (x.nth i) o c else x.nth j:=rfl
 rw [hn]
 simp only [List.length_set] at hj
 split
 ·rename_i h; subst h
  have e:((l.set j a).getD j default)=a:=by simp [List.getD_eq_getElem?_getD,hj]
  rw [e]
  have h1:=(hx.2.2.2 j hj).splice o c
  have h2:=likeDs_of hc
  exact ⟨h1.1.trans h2.1,fun q=>(h1.2 q).trans (h2.2 q)⟩
 ·rename_i h
  have:=hx.2.2.2 j hj
  simpa [List.getD_eq_getElem?_getD,List.getElem?_set,Ne.symm h] using this
theorem can_setF {l:List α} {x:D} {i:Nat} {c:List D} {a:α} (hx:Can s f l x) (hn:(f (l.getD i default)).length=c.length) (hc:eqvDs c (f a)):Can s f (l.set i a) (x.setAt i 0 c)=True:=by
 have e:splice (f (l.getD i default)) 0 c=c:=by
  simp only [splice,List.take_zero,List.nil_append,Nat.zero_add]
  rw [List.drop_eq_nil_of_le (by omega),List.append_nil]
 refine eq_true ⟨rfl,hx.2.1,by simp only [D.setAt,D.len,List.length_set]; exact hx.2.2.1,fun j hj=> ?_⟩
 have hn:(x.setAt i 0 c).nth j=if j=i then splice (x.nth i) 0 c else x.nth j:=rfl
 rw [hn]
 simp only [List.length_set] at hj
 split
 ·rename_i h; subst h
  have e2:((l.set j a).getD j default)=a:=by simp [List.getD_eq_getElem?_getD,hj]
  rw [e2]
  have h1:=(hx.2.2.2 j hj).splice 0 c
  rw [e] at h1
  have h2:=likeDs_of hc
  exact ⟨h1.1.trans h2.1,fun q=>(h1.2 q).trans (h2.2 q)⟩
 ·rename_i h
  have:=hx.2.2.2 j hj
  simpa [List.getD_eq_getElem?_getD,List.getElem?_set,Ne.symm h] using this
theorem can_sub {l:List α} {x:D} {lo hi':Nat} (hx:Can s f l x) (h:hi'≤l.length):Can s f ((l.drop lo).take (hi' - lo)) (x.sub lo hi')=True:=by
 refine eq_true ⟨rfl,hx.2.1,by simp [D.sub,D.len]; omega,fun i hi=> ?_⟩
 simp only [List.length_take,List.length_drop] at hi
 show likeDs (x.nth (lo+i)) _
 have:=hx.2.2.2 (lo+i) (by omega)
 have h2:i<hi' - lo:=by omega
 simpa [List.getD_eq_getElem?_getD,List.getElem?_take,h2] using this
theorem can_rep {n:Nat} {a:α} {c:List D} (h:eqvDs c (f a)):Can s f (List.replicate n a) (D.rep s n c)=True:=by
 refine eq_true ⟨rfl,rfl,by simp [D.rep,D.len],fun i hi=> ?_⟩
 simp only [List.length_replicate] at hi
 show likeDs c _
 have:=likeDs_of h
 simpa [List.getD_eq_getElem?_getD,hi] using this
theorem eqv_nil0 {s':Nat} (k:Nat→List D):Eqv (.sl s' 0 k) (encF s f ([]:List α))=True:=eq_true (.nil _ _ _ _)
omit [Inhabited α] in
theorem decF_length (x:D):(decF g x).length=x.len:=by simp [decF]
omit [Inhabited α] in
theorem decF_cat (x y:D):decF g (D.cat x y)=decF g x++decF g y:=by
 apply List.ext_getElem
 ·simp [decF,D.cat,D.len]
 ·intro i h1 h2
  simp only [decF,List.getElem_map,List.getElem_range]
  have hn:(D.cat x y).nth i=if i<x.len then x.nth i else y.nth (i - x.len):=rfl
  rw [hn,List.getElem_append]
  split
  ·rename_i h
   rw [dif_pos (by simpa [decF] using h)]
   simp [decF]
  ·rename_i h
   rw [dif_neg (by simpa [decF] using h)]
   simp [decF]
omit [Inhabited α] in
theorem decF_setAt (x:D) (i o:Nat) (c:List D):decF g (x.setAt i o c)=(decF g x).set i (g (splice (x.nth i) o c)):=by
 apply List.ext_getElem
 ·simp [decF,D.setAt,D.len]
 ·intro j h1 h2
  simp only [decF,List.getElem_map,List.getElem_range,List.getElem_set]
  have hn:(x.setAt i o c).nth j=if j=i then splice (x.nth i) o c else x.nth j:=rfl
  rw [hn]
  by_cases h:j=i
  ·subst h; simp
  ·rw [if_neg h,if_neg (Ne.symm h)]
omit [Inhabited α] in
theorem decF_rep (s' n:Nat) (c:List D):decF g (D.rep s' n c)=List.replicate n (g c):=by
 apply List.ext_getElem
 ·simp [decF,D.rep,D.len]
 ·intro j h1 h2
  simp [decF,D.rep,D.nth]
omit [Inhabited α] in
theorem decF_nil (s':Nat) (k:Nat→List D):decF g (.sl s' 0 k)=[]:=rfl
theorem cat_len (x y:D):(D.cat x y).len=x.len+y.len:=rfl
theorem cat_isSl (x y:D):(D.cat x y).isSl=true:=rfl
theorem cat_stride (x y:D):(D.cat x y).stride=x.stride:=rfl
theorem ofList_len (s:Nat) (l:List (List D)):(D.ofList s l).len=l.length:=rfl
theorem ofList_isSl (s:Nat) (l:List (List D)):(D.ofList s l).isSl=true:=rfl
theorem ofList_stride (s:Nat) (l:List (List D)):(D.ofList s l).stride=s:=rfl
theorem setAt_len (x:D) (i o:Nat) (c:List D):(x.setAt i o c).len=x.len:=rfl
theorem setAt_isSl (x:D) (i o:Nat) (c:List D):(x.setAt i o c).isSl=true:=rfl
theorem setAt_stride (x:D) (i o:Nat) (c:List D):(x.setAt i o c).stride=x.stride:=rfl
theorem sub_len (x:D) (a b:Nat):(x.sub a b).len=b - a:=rfl
theorem sub_isSl (x:D) (a b:Nat):(x.sub a b).isSl=true:=rfl
theorem sub_stride (x:D) (a b:Nat):(x.sub a b).stride=x.stride:=rfl
theorem rep_len (s n:Nat) (c:List D):(D.rep s n c).len=n:=rfl
theorem rep_isSl (s n:Nat) (c:List D):(D.rep s n c).isSl=true:=rfl
theorem rep_stride (s n:Nat) (c:List D):(D.rep s n c).stride=s:=rfl
theorem sl_len (s n:Nat) (k:Nat→List D):(D.sl s n k).len=n:=rfl
theorem sl_isSl (s n:Nat) (k:Nat→List D):(D.sl s n k).isSl=true:=rfl
theorem sl_stride (s n:Nat) (k:Nat→List D):(D.sl s n k).stride=s:=rfl
theorem flat_enc {l:List α} (h:∀ a,(f a).all D.scalar=true):(encF s f l).flat=True:=eq_true (fun i _=>h _)
end
def encP {α:Type} [Inhabited α] (f:α→List D) (o:Option α):D:= .pt o.isSome (f (o.getD default))
def decP {α:Type} (g:List D→α):D→Option α
 | .pt true l=>some (g l)
 | _=>none
theorem decP_true {α:Type} (g:List D→α) (l:List D):decP g (.pt true l)=some (g l):=rfl
theorem decP_false {α:Type} (g:List D→α) (l:List D):decP g (.pt false l)=none:=rfl
theorem decP_encP {α:Type} [Inhabited α] {g:List D→α} {f:α→List D} (h:∀ a,g (f a)=a) (o:Option α):decP g (.pt o.isSome (f (o.getD default)))=o:=by
 cases o with
 | none=>rfl
 | some a=>simp [decP,h]
theorem encP_some {α:Type} [Inhabited α] (f:α→List D) (a:α):encP f (some a)= .pt true (f a):=rfl
theorem encP_none {α:Type} [Inhabited α] (f:α→List D):encP f none= .pt false (f default):=rfl
theorem eqv_pnil {l l':List D}:Eqv (.pt false l) (.pt false l')=True:=eq_true (.pnil _ _)
theorem eqv_nl {α:Type} [Inhabited α] {s:Nat} {f:α→List D}:Eqv .nl (encF s f ([]:List α))=True:=eq_true (.nlsl _ _)
def CanD {α:Type} [Inhabited α] (t:Nat) (f:α→List D) (l:List (List α)) (d:D):Prop:=
 d.isSl=true∧d.stride=1∧d.len=l.length∧∀ i,i<l.length→(d.nth i).length=1∧EqvO (yd d i) (encF t f (l.getD i []))
theorem eqvD_can {α:Type} [Inhabited α] {t:Nat} {f:α→List D} {F:List α→List D} (hF:∀ a,F a=[encF t f a]) {l:List (List α)} {d:D} (h:CanD t f l d):EqvD d (encF 1 F l)=True:=
 eq_true ⟨h.1,rfl,h.2.1,h.2.2.1,fun i hi=>by
  obtain ⟨h1,h2⟩:=h.2.2.2 i (by rw [← h.2.2.1]; exact hi)
  have e:(encF 1 F l).nth i=[encF t f (l.getD i [])]:=hF _
  unfold yd at h2 ⊢
  rw [e]
  exact ⟨h1,h2⟩⟩
theorem canD_enc {α:Type} [Inhabited α] {t:Nat} {f:α→List D} {F:List α→List D} (hF:∀ a,F a=[encF t f a]) (l:List (List α)):CanD t f l (encF 1 F l)=True:=
 eq_true ⟨rfl,rfl,rfl,fun i hi=>by
  have e:(encF 1 F l).nth i=[encF t f (l.getD i [])]:=hF _
  unfold yd
  rw [e]
  exact ⟨rfl,.refl rfl⟩⟩
theorem canD_nils {α:Type} [Inhabited α] {t n:Nat} {f:α→List D}:CanD t f (List.replicate n []) (D.nils t n)=True:=
 eq_true ⟨rfl,rfl,by simp [D.nils,D.len],fun i hi=>by
  refine ⟨rfl,rfl,rfl,rfl,?_,fun j hj=>absurd hj (by simp [yd,D.nils,D.nth,D.len])⟩
  simp only [List.length_replicate] at hi
  simp [yd,D.nils,D.nth,D.len,encF,List.getD_eq_getElem?_getD,hi]⟩
theorem canD_nil {α:Type} [Inhabited α] {t:Nat} {f:α→List D}:CanD t f ([]:List (List α)) (D.nils t 0)=True:=canD_nils (n:=0)
theorem canD_app {α:Type} [Inhabited α] {t:Nat} {f:α→List D} {l:List (List α)} {d:D} (h:CanD t f l d):CanD t f (l++[[]]) (d.app [.sl t 0 fun _=>[]])=True:=
 eq_true ⟨rfl,h.2.1,by simp only [D.app,D.len,List.length_append,List.length_cons,List.length_nil]; exact congrArg (· +1) h.2.2.1,fun i hi=>by
  have e:(d.app [.sl t 0 fun _=>[]]).nth i=if i=d.len then [.sl t 0 fun _=>[]] else d.nth i:=rfl
  simp only [List.length_append,List.length_cons,List.length_nil] at hi
  unfold yd
  rw [e]
  have hd:=h.2.2.1
  by_cases ei:i=d.len
  ·rw [if_pos ei]
   subst ei
   rw [hd]
   refine ⟨rfl,?_⟩
   have e2:(l++[[]]).getD l.length []=[]:=by simp [List.getD_eq_getElem?_getD]
   rw [e2]
   exact ⟨rfl,rfl,rfl,rfl,fun j hj=>absurd hj (by simp [D.len])⟩
  ·rw [if_neg ei]
   have e2:(l++[[]]).getD i []=l.getD i []:=by simp [List.getD_eq_getElem?_getD,List.getElem?_append_left (show i<l.length by omega)]
   rw [e2]
   exact h.2.2.2 i (by omega)⟩
theorem canD_set {α:Type} [Inhabited α] {t i:Nat} {f:α→List D} {l:List (List α)} {a:List α} {d c:D} (h:CanD t f l d) (hc:Can t f a c):CanD t f (l.set i a) ((d.setAt i 0 [.undef]).setAt i 0 [c])=True:=
 eq_true ⟨rfl,h.2.1,by simp only [D.setAt,D.len,List.length_set]; exact h.2.2.1,fun j hj=>by
  simp only [List.length_set] at hj
  obtain ⟨g1,g2⟩:=h.2.2.2 j hj
  by_cases ei:j=i
  ·subst ei
   have e0:((d.setAt j 0 [.undef]).nth j).length=1:=by rw [setAt_one g1 g1]
   refine ⟨setAt_one e0 e0,?_⟩
   rw [setAt_yd e0,if_pos rfl]
   have e2:(l.set j a).getD j []=a:=by simp [List.getD_eq_getElem?_getD,hj]
   rw [e2]
   exact of_eq_true (eqvO_can hc)
  ·have e3:((d.setAt i 0 [.undef]).setAt i 0 [c]).nth j=d.nth j:=by
    show (if j=i then _ else (if j=i then _ else d.nth j))=_
    rw [if_neg ei,if_neg ei]
   unfold yd at g2 ⊢
   rw [e3]
   have e2:(l.set i a).getD j []=l.getD j []:=by simp [List.getD_eq_getElem?_getD,List.getElem?_set,Ne.symm ei]
   rw [e2]
   exact ⟨g1,g2⟩⟩
theorem allNl_rep (s n:Nat):allNl (D.rep s n [.nl])=True:=eq_true (fun _ _=>rfl)
theorem nils_len (t n:Nat):(D.nils t n).len=n:=rfl
theorem app_len (x:D) (c:List D):(x.app c).len=x.len+1:=rfl
theorem eqv_pt {b:Bool} {l l':List D} (h:eqvDs l l'):Eqv (.pt b l) (.pt b l')=True:=eq_true (.pt _ _ _ (likeDs_of h).1 (fun j _=>(likeDs_of h).2 j))
attribute [go_sem] eqv_nl canD_nils canD_nil canD_app canD_set allNl_rep nils_len app_len yd
attribute [go_sem] decP_true decP_false encP_some encP_none eqv_pnil eqv_pt
def cloIs:List Arg→Nat→Nat→Bool
 | .clo g _::_,0,f=>g == f
 | _::r,i+1,f=>cloIs r i f
 | _,_,_=>false
theorem cloIs_c (x:D) (r:List Arg) (i f:Nat):cloIs (.c x::r) (i+1) f=cloIs r i f:=(rfl)
theorem cloIs_a (l:List D) (r:List Arg) (i f:Nat):cloIs (.agg l::r) (i+1) f=cloIs r i f:=(rfl)
theorem cloIs_p (l:List D) (r:List Arg) (i f:Nat):cloIs (.ptr l::r) (i+1) f=cloIs r i f:=(rfl)
theorem cloIs_0 (g f:Nat) (c:List (List D)) (r:List Arg):cloIs (.clo g c::r) 0 f=(g == f):=(rfl)
def FSpec.or (i f:Nat) (a b:FSpec):FSpec:=⟨fun x=>bif cloIs x i f then a.pre x else b.pre x,fun x=>bif cloIs x i f then a.res x else b.res x,a.alias⟩
theorem or_pre (i f:Nat) (a b:FSpec) (x:List Arg):(FSpec.or i f a b).pre x=bif cloIs x i f then a.pre x else b.pre x:=(rfl)
theorem or_res (i f:Nat) (a b:FSpec) (x:List Arg):(FSpec.or i f a b).res x=bif cloIs x i f then a.res x else b.res x:=(rfl)
theorem or_al (i f:Nat) (a b:FSpec):(FSpec.or i f a b).alias=a.alias:=(rfl)
attribute [go_sem] cloIs_c cloIs_a cloIs_p cloIs_0 or_pre or_res or_al
theorem FnFact.or {P:Program} {g i f:Nat} {a b:FSpec} (ha:FnFact P g a) (hb:FnFact P g b) (e:a.alias=b.alias):FnFact P g (FSpec.or i f a b):=
 ⟨ha.enter,fun S0 w args vs h1 h2 h3 h4=>by
  cases hc:cloIs args i f with
  | true=>
   have h4:a.pre args:=by simpa only [FSpec.or,hc,cond_true] using h4
   refine (ha.valid S0 w args vs h1 h2 h3 h4).mono ?_
   rintro o w' ⟨v,rfl,L⟩
   exact ⟨v,rfl, { L with res:=by simpa only [FSpec.or,hc,cond_true] using L.res }⟩
  | false=>
   have h4:b.pre args:=by simpa only [FSpec.or,hc,cond_false] using h4
   refine (hb.valid S0 w args vs h1 h2 h3 h4).mono ?_
   rintro o w' ⟨v,rfl,L⟩
   exact ⟨v,rfl, { L with res:=by simpa only [FSpec.or,hc,cond_false,e] using L.res }⟩⟩
def aCell:List Arg→Nat→Nat→D
 | [],_,_=> .undef
 | .c x::_,0,_=>x
 | .agg l::_,0,j=>l.getD j .undef
 | .ptr l::_,0,j=>l.getD j .undef
 | .clo _ caps::_,0,j=>caps.flatten.getD j .undef
 | _::r,i+1,j=>aCell r i j
def dInt:D→Int | .int _ n=>n | _=>0
def dBool:D→Bool | .bool b=>b | _=>false
def dStr:D→ByteArray | .str s=>s | _=> .empty
def dFn:D→Nat | .fn f=>f | _=>0
attribute [go_sem] aCell dInt dBool dStr dFn argAV eqv_nil0 can_enc canW_enc can_nil canW_nil decF_cat decF_setAt decF_rep decF_nil cat_len cat_isSl cat_stride ofList_len ofList_isSl ofList_stride setAt_len setAt_isSl setAt_stride sub_len sub_isSl sub_stride rep_len rep_isSl rep_stride sl_len sl_isSl sl_stride
 List.flatten_cons List.flatten_nil and_assoc Option.isSome_some
end Go.Abs
set_option linter.unusedVariables false
set_option linter.unusedSimpArgs false
namespace Go.Abs
section
variable {P:Program} {ty:Tys} {tb:Fns} {n:Nat} {draw:List Oper→St→Prop} {fin':Jmp→St→Prop} {stop:List K→St→Prop} {k:List K} {st:St} {sus:List AV}
theorem Stop.eqnil (S:Stop P ty tb n draw fin' stop sus) {id:Nat} {o1 o2:Oper} (t d1 d2 T T' e:Nat) {x:D} {i:TI}
 (h1:o1.op= .move (.tmp t)) (h1d:o1.dst=some d1) (h1g:o1.guard=none) (h2:o2.op= .binOp .eql T (.tmp d1) (.const (.slice none 0 0)) T') (h2d:o2.dst=some d2) (h2g:o2.guard=none)
 (hT:ty T=some i) (hi:i.desc= .slice e) (ht:lk st.sl t=some (.c (.d x))) (hx:x.isSl=true) (hd1:d1<n) (hd2:d2<n)
 (h:∀ b:Bool,(b=true→x.len=0)→stop k ((st.slot d1 (.c (.d x))).slot d2 (.c (.d (.bool b))))):stop (.code (.region id #[o1,o2] false)::k) st:=by
 obtain ⟨cx,Q,ρ,rfl,hs,hty,htb,hd0,hfin,hrd,rfl⟩:=S.ex
 intro m a w R
 refine wpIn_region ?_
 show wpOpsIn (FR ρ) 0 P #[o1,o2] (SatK P ρ k Q) [0,1] a w
 obtain ⟨_,hv⟩:=R.slots t _ ht
 have R1:=R.slot (t:=d1) (v:= .c (.d x)) (u:=a.tmps.getD t undef) hd1 hv
 simp only [wpOpsIn]
 have w1:Region.wanted o1 (yielded #[o1,o2] a.tmps)=true:=by simp [Region.wanted,h1g]
 simp only [List.getElem?_toArray,List.getElem?_cons_zero,List.getElem?_cons_succ]
 rw [if_pos w1]
 refine wpIn_of_wp (fun c e=>by rw [h1] at e; cases e) ?_
 unfold Oper.wp
 have e1:(execOp a.eval o1).run P w= .ok (.value (a.tmps.getD t undef)) w:=by simp [execOp,h1,Act.eval]
 rw [e1,Oper.upon_value,h1d]
 have w2:∀ a':Act,Region.wanted o2 (yielded #[o1,o2] a'.tmps)=true:=fun a'=>by simp [Region.wanted,h2g]
 rw [if_pos (w2 _)]
 refine wpIn_of_wp (fun c e=>by rw [h2] at e; cases e) ?_
 have hx1:=R1.slots d1 (.c (.d x)) (by simp [St.slot,lk])
 generalize hq:(a.put (some d1) (a.tmps.getD t undef))=a1 at*
 obtain ⟨_,hx2⟩:=hx1
 have hdat:RD w (Sof cx m) x (a1.tmps.getD d1 undef):=hx2
 generalize hu:a1.tmps.getD d1 undef=u at*
 have hsl:∃ ao l c,u= .slice ao l c∧(ao.isNone=true→x.len=0):=by
  cases hdat with
  | sl0 s g ao cap=>exact ⟨ao,0,cap,rfl,fun _=>rfl⟩
  | sl s n g B o cap f hn hcap hB hS hl hc hr=>exact ⟨_,_,_,rfl,fun h=>by cases h⟩
  | _=>cases hx
 obtain ⟨ao,l,c,rfl,hao⟩:=hsl
 have hund:P.underlying T=some (.slice e):=by rw [(hty T i hT).und,hi]
 have e2:(execOp a1.eval o2).run P w= .ok (.value (.bool ao.isNone)) w:=by
  simp [execOp,h2,Act.eval,hu,eqGuard,binOp,run_equal_slice_nil w T e ao l c hund]
 unfold Oper.wp
 rw [e2,Oper.upon_value,h2d]
 exact h ao.isNone hao m _ w (R1.slot (t:=d2) (v:= .c (.d (.bool ao.isNone))) hd2 (RD.bool _))
def GrowPost (s:Nat) (w w':World) (v:Value):Prop:=
 SameEnv w w'∧w.heap.size≤w'.heap.size∧(∀ B,B<w.heap.size→w'.heap[B]? =w.heap[B]?)∧
 (v= .slice none 0 0∨∃ B cap c T,v= .slice (some ⟨B,0,none⟩) 0 cap∧w.heap.size≤B∧B<w'.heap.size∧w'.heap[B]? =some (.cells c T (0,0))∧c.size=cap*s)
def growG (stop:List K→St→Prop) (k:List K) (t d kk s:Nat) (n:Int):Prop×St→Prop
 | (p,st1)=>p∧lk st1.sl t=some (.u (.c (.d (.int .i64 n))))∧lk st1.lb kk=none∧stop k ⟨(d,.c (.own kk))::st1.sl,st1.bx,(kk,.owned (.sl s 0 fun _=>[]))::st1.lb⟩
theorem Rel.growN {cx:Cx} {m:Mp} {a:Act} {w w':World} {st:St} (R:Rel cx st m a w) {s kk:Nat} {v:Value} (hk:lk st.lb kk=none) (h:GrowPost s w w' v) :
 ∃ m',Rel cx ⟨st.sl,st.bx,(kk,.owned (.sl s 0 fun _=>[]))::st.lb⟩ m' a w'∧RA cx m' w' (lk ((kk,Lab.owned (.sl s 0 fun _=>[]))::st.lb)) (.c (.own kk)) v:=by
 obtain ⟨h1,h2,h3,h4⟩:=h
 have key:∀ ob:Option Nat,(∀ B,ob=some B→w.heap.size≤B∧B<w'.heap.size∧∃ c T,w'.heap[B]? =some (.cells c T (0,0)))→
  Rel cx ⟨st.sl,st.bx,(kk,.owned (.sl s 0 fun _=>[]))::st.lb⟩ ⟨fun k=>(match (if k=kk then some (D.sl s 0 fun _=>[]) else none) with | some _=>(if k=kk then ob else none) | none=>m.own k),m.box,m.inn,m.mp⟩ a w':=by
  intro ob hob
  refine R.newLabs (fun k=>if k=kk then some (D.sl s 0 fun _=>[]) else none) (fun k=>if k=kk then ob else none) h2 h1 h3 (fun k x hx=> ?_) (fun k hx=> ?_) (fun k k' B e e'=> ?_)
  ·split at hx
   ·rename_i e; subst e
    obtain rfl:=Option.some.inj hx
    refine ⟨hk,lk_same _ _ _,rfl,fun B hB=> ?_⟩
    simp only [if_true] at hB
    obtain ⟨g1,g2,c,T,g3⟩:=hob B hB
    exact ⟨g1,g2,c,T,g3,rfl,fun i hi=>absurd hi (by simp [D.len])⟩
   ·cases hx
  ·split at hx
   ·cases hx
   ·rename_i e
    exact ⟨lk_other e,by simp [e]⟩
  ·split at e<;>split at e'
   ·rename_i q q'; rw [q,q']
   ·cases e'
   ·cases e
   ·cases e
 rcases h4 with rfl | ⟨B,cap,c,T,rfl,g1,g2,g3,g4⟩
 ·refine ⟨_,key none (fun B h=>by cases h),?_⟩
  simp only [RA,RU,RCl,lk_same,Hdl,if_true]
  exact ⟨trivial,rfl⟩
 ·refine ⟨_,key (some B) (fun B' h=>by obtain rfl:=Option.some.inj h; exact ⟨g1,g2,c,T,g3⟩),?_⟩
  simp only [RA,RU,RCl,lk_same,Hdl,if_true]
  exact ⟨cap,c,T,rfl,g3,g4,Nat.zero_le _⟩
theorem Stop.callGrow (S:Stop P ty tb n draw fin' stop sus) {id:Nat} {ops:Array Oper} (i t d kk s:Nat) {o:Oper} {g:Nat} {fn:Func} {tys:Array Nat} {qn:Int}
 (ho:ops[i]? =some o) (hop:o.op= .call { callee:= .value (.func g),args:= #[.const (.slice none 0 0),.tmp t],argTypes:=tys }) (hg:o.guard=none) (hd:o.dst=some d) (hdn:d<n)
 (hf:P.funcs[g]? =some fn) (hnm:(fn.name == "runtime.NumGoroutine")=false) (hb:fn.body.isNone=false)
 (hC:∀ w:World,Calls P g #[.slice none 0 0,.int .i64 qn] w fun e w'=>∃ v,e= .returned v∧GrowPost s w w' v)
 (h:growG stop (.ops ops (i+1)::k) t d kk s qn (evSeq ty tb n (ops.toList.map (·.dst)) (ops.toList.take i) st)) :
 stop (.code (.region id ops false)::k) st:=by
 obtain ⟨cx,Q,ρ,rfl,hs,hty,htb,hd0,hfin,hrd,rfl⟩:=S.ex
 intro m a w R
 refine wpIn_region ?_
 have hi:i<ops.size:=(Array.getElem?_eq_some_iff.1 ho).1
 have hsplit:List.range ops.size=List.range i++i::restIx ops (i+1):=by
  have e1:ops.size=i+((ops.size - (i+1))+1):=by omega
  conv=>lhs; rw [e1,List.range_add,List.range_succ_eq_map]
  simp only [restIx,List.map_cons,List.map_map,Nat.add_zero]
  congr 2
  apply List.map_congr_left
  intro x _
  simp; omega
 rw [hsplit]
 have e:=evIdx_mid ty tb cx.nt ops.toList (ops.toList.take i) [] (ops.toList.drop i) st (by simp)
 have e2:(ops.toList.take i).length=i:=by simp; omega
 simp only [e2,List.length_nil,Nat.zero_add,List.map_id'] at e
 rw [← e] at h
 generalize hq:evIdx ty tb cx.nt ops.toList (List.range i) st=q at h
 obtain ⟨p,st1⟩:=q
 obtain ⟨hp,hx,hk,h⟩:=h
 refine ops_app hty htb (List.range i) st m a w R (by rw [hq]; exact hp) (fun m1 a1 w1 R1=> ?_)
 rw [hq] at R1
 simp only [wpOpsIn,ho]
 rw [if_pos (by simp [Region.wanted,hg])]
 refine wpIn_of_wp (fun c e=>by rw [hop] at e; cases e) ?_
 have hxv:a1.eval (.tmp t)= .int .i64 qn:=rd_int (R1.slots t _ hx).2
 have hexec:(execOp a1.eval o).run P w1= .ok (.enter g #[.slice none 0 0,.int .i64 qn]) w1:=by
  simp only [execOp,hop,resolve,Deferred.ofValue,Sem.run_bind,Sem.run_pure,Result.andThen_ok,invoke,Array.empty_append,Act.eval] at hxv ⊢
  simp only [List.map_toArray,List.map_cons,List.map_nil,Array.append_empty]
  have e3:a1.eval (.tmp t)= .int .i64 qn:=hxv
  have e4:a1.eval (.const (.slice none 0 0))= .slice none 0 0:=rfl
  rw [e3,e4]
  exact run_callFunc hf hnm hb _
 unfold Oper.wp
 rw [hexec,Oper.upon_enter]
 refine (hC w1).mono ?_
 rintro e w2 ⟨v,rfl,hL⟩
 obtain ⟨m2,R2,hr⟩:=R1.growN hk hL
 rw [hd]
 exact h m2 _ w2 (R2.slot (t:=d) (v:= .c (.own kk)) hdn hr)
attribute [go_sem] growG
end
end Go.Abs
set_option linter.unusedVariables false
set_option linter.unusedSimpArgs false
namespace Go.Abs
variable {α σ ρ τ:Type}
def mapC (g:τ→σ):Ctl τ ρ→Ctl σ ρ
 | .next t=> .next (g t)
 | .out r=> .out r
def foldC (f:Int→τ→α→Ctl τ ρ) (e:τ→Option ρ):Int→List α→τ→Option ρ
 | _,[],t=>e t
 | i,x::r,t=>
  match f i t x with
  | .next t'=>foldC f e (i+1) r t'
  | .out q=>q
theorem iter_list [Inhabited α] (l:List α) (B:σ→Ctl σ ρ) (mk:Int→τ→σ) (f:Int→τ→α→Ctl τ ρ) (e:τ→Option ρ) (hl:l.length<1000000000)
 (hstep:∀ (i:Nat) t,i<l.length→B (mk i t)=mapC (mk (i+1)) (f i t (l.getD i default)))
 (hend:∀ t,B (mk l.length t)= .out (e t)) (t:τ):iterC B 1000000000 (mk 0 t)=foldC f e 0 l t:=by
 have key:∀ (k i fuel:Nat) (t:τ),i+k=l.length→k<fuel→iterC B fuel (mk i t)=foldC f e i (l.drop i) t:=by
  intro k
  induction k with
  | zero=>
   intro i fuel t hi hf
   obtain ⟨m,rfl⟩:∃ m,fuel=m+1:=⟨fuel - 1,by omega⟩
   have hi:i=l.length:=by omega
   subst hi
   simp [iterC,hend,foldC]
  | succ k ih=>
   intro i fuel t hi hf
   obtain ⟨m,rfl⟩:∃ m,fuel=m+1:=⟨fuel - 1,by omega⟩
   have hlt:i<l.length:=by omega
   have hd:l.drop i=l.getD i default::l.drop (i+1):=by
    rw [List.drop_eq_getElem_cons hlt]; simp [List.getD_eq_getElem?_getD,hlt]
   rw [hd]
   simp only [iterC,hstep i t hlt,foldC]
   cases hfx:f i t (l.getD i default) with
   | next t'=>
    have:=ih (i+1) m t' (by omega) (by omega)
    simpa [mapC] using this
   | out q=>rfl
 have:=key l.length 0 1000000000 t (by omega) hl
 simpa using this
def inR (n lo hi:Int):Bool:=decide (lo≤n) && decide (n≤hi)
def codeIf (b:Bool) (e:Int):Int:=if b then 0 else e
def firstV:List Int→Int
 | []=>0
 | x::r=>if x=0 then firstV r else x
theorem wS (i:Nat) (h:i<1000000000):IntKind.i64.wrap ((i:Int)+1)=(i:Int)+1:=IntWalk.i64_in _ ⟨by omega,by omega⟩
theorem ltN {i n:Nat} (h:i<n):(decide ((i:Int)<(n:Int)))=true:=by simpa using h
theorem rgN {i n:Nat} (h:i<n):0≤(i:Int)∧(i:Int)<(n:Int):=⟨by omega,by omega⟩
theorem geN (n:Nat):(decide ((n:Int)<(n:Int)))=false:=by simp
end Go.Abs
set_option linter.unusedVariables false
set_option linter.unusedSimpArgs false
namespace Go.Abs
def Jmp.code:Jmp→Code
 | .off=> .skip
 | .ret=> .ret
 | .exit id=> .exit id
def putPs:List Nat→List AV→List (Nat×AV)→List (Nat×AV)
 | p::ps,v::vs,sl=>putPs ps vs ((p,v)::sl)
 | _,_,sl=>sl
def putVs:List Nat→List Value→Array Value→Array Value
 | p::ps,v::vs,t=>putVs ps vs (t.setIfInBounds p v)
 | _,_,t=>t
theorem putVs_fold:∀ (ps:List Nat) (vs:List Value) (t:Array Value),(ps.zip vs).foldl (fun tmps (p:Nat×Value)=>tmps.setIfInBounds p.1 p.2) t=putVs ps vs t
 | [],_,_=>rfl
 | _::_,[],_=>rfl
 | p::ps,v::vs,t=>by simp only [List.zip_cons_cons,List.foldl_cons,putVs]; exact putVs_fold ps vs _
theorem putVs_size:∀ (ps:List Nat) (vs:List Value) (t:Array Value),(putVs ps vs t).size=t.size
 | [],_,_=>rfl
 | _::_,[],_=>rfl
 | p::ps,v::vs,t=>by simp only [putVs]; rw [putVs_size]; simp
section
variable {P:Program} {ty:Tys} {tb:Fns} {cx:Cx} {st:St} {m m1 m':Mp} {a:Act} {w w':World} {o:Oper} {out:Out} {ws:List Wr} {ρ:Option Nat}
theorem putPs_rel {lb:Nat→Option Lab} {nt:Nat}:∀ {ps:List Nat} {vs:List AV} {us:List Value} {sl:List (Nat×AV)} {t:Array Value},t.size=nt→(∀ p∈ps,p<nt)→
 vs.length=us.length→(∀ i,i<vs.length→RA cx m w lb (vs.getD i default) (us.getD i undef))→(∀ s v,lk sl s=some v→s<nt∧RA cx m w lb v (t.getD s undef))→
 ∀ s v,lk (putPs ps vs sl) s=some v→s<nt∧RA cx m w lb v ((putVs ps us t).getD s undef)
 | [],_,_,_,_,_,_,_,_,h=>by simpa only [putPs,putVs] using h
 | _::_,[],[],_,_,_,_,_,_,h=>by simpa only [putPs,putVs] using h
 | _::_,[],_::_,_,_,_,_,h,_,_=>by cases h
 | _::_,_::_,[],_,_,_,_,h,_,_=>by cases h
 | p::ps,x::vs,u::us,sl,t,hn,hp,hl,hv,h=>by
  simp only [putPs,putVs]
  refine putPs_rel (by simp [hn]) (fun q hq=>hp q (List.mem_cons_of_mem _ hq)) (by simpa using hl) (fun i hi=>by simpa using hv (i+1) (by simpa using hi)) (fun s v hs=> ?_)
  simp only [lk] at hs
  split at hs
  ·rename_i e; subst e
   obtain rfl:=Option.some.inj hs
   have hlt:=hp p (List.mem_cons_self ..)
   refine ⟨hlt,?_⟩
   rw [Array.getD_eq_getD_getElem?,Array.getElem?_setIfInBounds_self_of_lt (by rw [hn]; exact hlt)]
   simpa using hv 0 (by simp)
  ·rename_i e
   obtain ⟨h1,h2⟩:=h s v hs
   refine ⟨h1,?_⟩
   simpa [Array.getD_eq_getD_getElem?,Array.getElem?_setIfInBounds,e] using h2
def funOf:AC→Option (Nat×List AV×List AV)
 | .clo g caps=>some (g,[],caps.map capAV)
 | .bnd g l=>some (g,[.agg (l.map .d)],[])
 | _=>none
theorem funOf_val {cx:Cx} {m:Mp} {w:World} {lb:Nat→Option Lab} {x:AC} {v:Value} {g:Nat} {pre suf:List AV} (h:funOf x=some (g,pre,suf)) (hx:RCl cx m w lb x v) :
 ∃ b c,v= .func (.func g) b c∧b.size=pre.length∧c.size=suf.length∧(∀ i,i<pre.length→RA cx m w lb (pre.getD i default) (b.getD i undef))∧(∀ i,i<suf.length→RA cx m w lb (suf.getD i default) (c.getD i undef)):=by
 cases x with
 | clo g' caps=>
  obtain ⟨rfl,rfl,rfl⟩:g'=g∧[]=pre∧caps.map capAV=suf:=by simpa [funOf] using h
  obtain ⟨vs,rfl,hvs,hvc⟩:=hx
  refine ⟨#[],vs,rfl,rfl,by simpa using hvs,fun i hi=>absurd hi (by simp),fun i hi=> ?_⟩
  rw [List.length_map] at hi
  obtain ⟨u,hu,hr⟩:=hvc i hi
  have e1:(caps.map capAV).getD i default=capAV (caps.getD i (.ref 0 0)):=by
   rw [List.getD_eq_getElem?_getD,List.getElem?_map,List.getD_eq_getElem?_getD,List.getElem?_eq_getElem hi]; rfl
  have e2:vs.getD i undef=u:=by rw [Array.getD_eq_getD_getElem?,hu]; rfl
  rw [e1,e2]
  cases hq:caps.getD i (.ref 0 0) with
  | ref b off=>rw [hq] at hr; exact hr
  | sptr l off=>rw [hq] at hr; exact hr
 | bnd g' l=>
  obtain ⟨rfl,rfl,rfl⟩:g'=g∧[AV.agg (l.map .d)]=pre∧[]=suf:=by simpa [funOf] using h
  obtain ⟨us,rfl,hsz,hc⟩:=hx
  refine ⟨#[.agg us], #[],rfl,rfl,rfl,fun i hi=> ?_,fun i hi=>absurd hi (by simp)⟩
  obtain rfl:i=0:=by simpa using hi
  refine ⟨us,rfl,by simpa using hsz,fun j hj=> ?_⟩
  rw [List.length_map] at hj
  obtain ⟨u,hu,hr⟩:=hc j hj
  refine ⟨u,hu,?_⟩
  have e1:(l.map AC.d).getD j .undef= .d (l.getD j .undef):=by
   rw [List.getD_eq_getElem?_getD,List.getElem?_map,List.getD_eq_getElem?_getD,List.getElem?_eq_getElem hj]; rfl
  rw [e1]; exact hr
 | _=>simp [funOf] at h
def recOf (fn:Nat) (tmps:Array Value) (ps:Array Nat) (assign body:Code) (D:Nat) (s:LoopState) (pe:Option Code):Loop:=
 { state:=s,pending:=pe,fn,tmps,params:=ps,assign,body,defers:=D }
theorem enter_any (R:Rel cx st m a w) {Ds:List Nat} (hm:Marks cx w a.defers Ds) (hrd:∀ l,ρ=some l→∃ r,(l,Obj.loop r)∈cx.recs) (fn:Nat) (ps:Array Nat) (assign body:Code) :
 ∃ l Dm D w1,(Instr.enterLoop fn a.tmps ps assign body ρ).run P w= .ok (l,Dm.map mark) w1∧w1.heap[l]? =some (.loop (recOf fn a.tmps ps assign body D .ready none))∧cx.w0.heap.size≤l∧
  (∀ p∈cx.recs,p.1≠l)∧l∉Dm++Ds∧Rel cx st m a w1∧Marks cx w1 ((Dm++Ds).map mark) (Dm++Ds):=by
 have hrl:∀ p∈cx.recs,p.1<w.heap.size:=fun p hp=>(Array.getElem?_eq_some_iff.1 (R.recs p hp).2.1).1
 have hDl:∀ D∈Ds,D<w.heap.size:=fun D hD=>(Array.getElem?_eq_some_iff.1 (hm.here D hD)).1
 cases ρ with
 | some l0=>
  obtain ⟨r0,hr0⟩:=hrd l0 rfl
  have hrun:=run_enterLoop_inner (P:=P) (R.recs _ hr0).2.1 fn a.tmps ps assign body
  have hsame:∀ (ob:Obj) B,B<w.heap.size→(w.alloc ob).heap[B]? =w.heap[B]? :=fun ob B hB=>by
   show (w.heap.push ob)[B]? =_
   rw [Array.getElem?_push,if_neg (by omega)]
  have R1:Rel cx st m a (w.alloc (.loop (recOf fn a.tmps ps assign body r0.defers .ready none))):=R.grow ⟨rfl,rfl,rfl⟩ (by show _≤(w.heap.push _).size; simp) (hsame _)
  refine ⟨w.heap.size,[],r0.defers,_,hrun,World.alloc_heap_new _ _,R.size,fun p hp=>by have:=hrl p hp; omega,fun h=> ?_,R1,?_⟩
  ·have:=hDl _ (by simpa using h); omega
  ·rw [List.nil_append, ← hm.eq]; exact hm.keeps (.grow (hsame _))
 | none=>
  have hrun:=run_enterLoop_outer (P:=P) (w:=w) fn a.tmps ps assign body
  have hsame:∀ B,B<w.heap.size→((w.alloc (.deferred (some []))).alloc (.loop (recOf fn a.tmps ps assign body w.heap.size .ready none))).heap[B]? =w.heap[B]? :=fun B hB=>by
   show ((w.heap.push _).push _)[B]? =_
   rw [Array.getElem?_push,if_neg (by simp; omega),Array.getElem?_push,if_neg (by omega)]
  have hD:((w.alloc (.deferred (some []))).alloc (.loop (recOf fn a.tmps ps assign body w.heap.size .ready none))).heap[w.heap.size]? =some (.deferred (some [])):=by
   show ((w.heap.push _).push _)[w.heap.size]? =_
   rw [Array.getElem?_push,if_neg (by simp),Array.getElem?_push,if_pos rfl]
  have hl:((w.alloc (.deferred (some []))).alloc (.loop (recOf fn a.tmps ps assign body w.heap.size .ready none))).heap[w.heap.size+1]? =some (.loop (recOf fn a.tmps ps assign body w.heap.size .ready none)):=by
   show ((w.heap.push _).push _)[w.heap.size+1]? =_
   rw [Array.getElem?_push,if_pos (by simp)]
  have R1:Rel cx st m a ((w.alloc (.deferred (some []))).alloc (.loop (recOf fn a.tmps ps assign body w.heap.size .ready none))):=
   R.grow ⟨rfl,rfl,rfl⟩ (by show _≤((w.heap.push _).push _).size; simp only [Array.size_push]; omega) hsame
  have hm1:=hm.keeps (.grow hsame)
  have hRs:=R.size
  refine ⟨w.heap.size+1,[w.heap.size],w.heap.size,_,hrun,hl,by omega,fun p hp=>by have:=hrl p hp; omega,fun h=> ?_,R1,⟨rfl,?_,?_,?_,?_⟩⟩
  ·rcases List.mem_append.1 h with h | h
   ·simp at h
   ·have:=hDl _ h; omega
  ·refine List.nodup_cons.2 ⟨fun h=> ?_,hm.nodup⟩
   have:=hDl _ h; omega
  ·intro D h
   rcases List.mem_cons.1 h with rfl | h
   ·exact R.size
   ·exact hm.lo D h
  ·intro D h
   rcases List.mem_cons.1 h with rfl | h
   ·exact hD
   ·exact hm1.here D h
  ·intro D h p hp
   rcases List.mem_cons.1 h with rfl | h
   ·have:=hrl p hp; omega
   ·exact hm.own D h p hp
def yieldG (P:Program) (ty:Tys) (tb:Fns) (n:Nat) (draw:List Oper→St→Prop) (stop:List K→St→Prop) (stopJ:Jmp→List K→St→Prop) (k:List K) (sus:List AV) (osl:List (Nat×AV)) (ts:List Nat) (dst:Option Nat)
 (l:Nat) (ps:List Nat) (assign body:Code) (x:Operand) (args:List Operand):Prop×St→Prop
 | (p,st1)=>p∧valOf st1 x= .c (.yld l)∧
  ∀ stopA,Stop P ty tb n draw (onlyOff fun s=>∀ stopB,
   Stop P ty tb n draw (fun j s'=>match j with
    | .off=>stop k ((⟨keptSl st1.sl ts,s'.bx,s'.lb⟩:St).done dst ⟨True,.c (.d (.bool true)),[]⟩)
    | j=>stopJ j k ((⟨keptSl st1.sl ts,s'.bx,s'.lb⟩:St).done dst ⟨True,.c (.d (.bool false)),[]⟩)) stopB (sus++snds (keptSl st1.sl ts))→stopB [.code body] s) stopA (sus++snds (keptSl st1.sl ts))→
   stopA [.code assign] ⟨putPs ps (valsOf st1 args) osl,st1.bx,st1.lb⟩
def YieldOk (P:Program) (ty:Tys) (tb:Fns) (n n':Nat) (draw:List Oper→St→Prop) (stop:List K→St→Prop) (stopJ:Jmp→List K→St→Prop) (sus:List AV) (osl:List (Nat×AV)) (l:Nat) (ps:List Nat) (assign body:Code):Prop:=
 ∀ {id:Nat} {ops:Array Oper} {k:List K} {st:St} (i:Nat) (ts:List Nat) {o:Oper} {x:Operand} {args:Array Operand} {tys:Array Nat} (d:Option Nat),ops[i]? =some o→
  o.op= .call { callee:= .value x,args:=args,argTypes:=tys } →o.guard=none→o.dst=d→dstOk n' d→args.size=ps.length→
  yieldG P ty tb n draw stop stopJ (.ops ops (i+1)::k) sus osl ts d l ps assign body x args.toList (evSeq ty tb n' (ops.toList.map (·.dst)) (ops.toList.take i) st)→
  stop (.code (.region id ops false)::k) st
theorem Stop.range {n n':Nat} {draw draw':List Oper→St→Prop} {fin':Jmp→St→Prop} {stop:List K→St→Prop} {sus:List AV} (S:Stop P ty tb n draw fin' stop sus) {k:List K} {st:St}
 (ts:List Nat) {g:Nat} {ac:AC} {pre suf:List AV} {fn:Func} {c:Code} {x:Operand} {ps:Array Nat} {assign body:Code}
 (hf:P.funcs[g]? =some fn) (hnm:(fn.name == "runtime.NumGoroutine")=false) (hb:fn.body=some c) (hn:fn.ntmps=n') (hres:fn.results= #[]) (hdraw:∀ cx,cx.nt=n→DrawOk P ty tb cx draw) (hdraw':∀ cx,cx.nt=n'→DrawOk P ty tb cx draw')
 (hps:∀ p∈ps.toList,p<n) (hx:valOf st x= .c ac) (hfun:funOf ac=some (g,pre,suf)) (hlen:pre.length+1+suf.length≤n')
 (h:∀ (l:Nat) (stopI:List K→St→Prop) (stopJ:Jmp→List K→St→Prop),
  Stop P ty tb n' draw' (onlyEnd fun s=>stop k ⟨keptSl st.sl ts,s.bx,s.lb⟩) stopI (sus++snds (keptSl st.sl ts))→
  (∀ j,Stop P ty tb n' draw' (onlyEnd fun s=>stop (.code j.code::k) ⟨keptSl st.sl ts,s.bx,s.lb⟩) (stopJ j) (sus++snds (keptSl st.sl ts)))→
  YieldOk P ty tb n n' draw stopI stopJ (sus++snds (keptSl st.sl ts)) (keptSl st.sl ts) l ps.toList assign body→
  stopI [.code c] ⟨inSl 0 (pre++ .c (.yld l)::suf),st.bx,st.lb⟩) :
 stop (.code (.rangeFunc x ps assign body)::k) st:=by
 obtain ⟨cx,Q,ρ,rfl,hs,hty,htb,hd0,hfin,hrd,rfl⟩:=S.ex
 intro m a w R
 refine wpIn_rangeFunc fun fnO _=> ?_
 obtain ⟨Ds,hm⟩:=R.defers
 obtain ⟨l,Dm,D,w1,hent,hL1,hlo,hlr,hlD,R1,hm1⟩:=enter_any (P:=P) R hm hrd fnO ps assign body
 have hxv:=R1.val x
 rw [hx] at hxv
 obtain ⟨bs,vs,hv,hbs,hvs,hbc,hvc⟩:=funOf_val hfun hxv
 refine ⟨l,Dm.map mark,w1, { target:= .fn (.func g) vs,args:=bs++ #[.func (.yield l) #[] #[]] },w1,g,bs++ #[.func (.yield l) #[] #[]]++vs,w1,hent,?_,fun _ _=>trivial,?_,fun h=>(by cases h),?_⟩
 ·simp only [resolve,hv]
  simp [go_sem,Deferred.ofValue,Act.eval]
 ·simp only [invoke,go_sem]
  exact run_callFunc hf hnm (by rw [hb]; rfl) _
 have ea:({ a with defers:=Dm.map mark++a.defers }:Act)= { a with defers:=(Dm++Ds).map mark } :=by rw [hm.eq,List.map_append]
 rw [ea]
 obtain ⟨rec,hrec⟩:∃ rec:LoopState→Option Code→Loop,rec=recOf fnO a.tmps ps assign body D:=⟨_,rfl⟩
 rw [← hrec] at hL1
 let susI:List (AV×Value):=cx.sus++(keptSl st.sl ts).map fun q=>(q.2,a.tmps.getD q.1 undef)
 let recI:LoopState→Option Code→List (Nat×Obj):=fun s pe=>cx.recs++(Dm++Ds).map (fun D=>(D,Obj.deferred (some [])))++[(l,.loop (rec s pe))]
 let cxI:LoopState→Option Code→Cx:=fun s pe=> { cx with nt:=n',sus:=susI,recs:=recI s pe }
 have hsusI:susI.map (·.1)=sus++snds (keptSl st.sl ts):=by simp only [susI,List.map_append,hs,List.map_map,snds_map]; rfl
 have hrecI:∀ {s pe} {w2:World} {s' pe'} ,(∀ p,p∈recI s pe→cx.w0.heap.size≤p.1∧w2.heap[p.1]? =some p.2∧NoCells p.2)→∀ p,p∈recI s' pe'→cx.w0.heap.size≤p.1∧(w2.putObj l (.loop (rec s' pe'))).heap[p.1]? =some p.2∧NoCells p.2:=by
  intro s pe w2 s' pe' hr p hp
  have hll:=hr (l,.loop (rec s pe)) (by simp [recI])
  rcases List.mem_append.1 hp with hp' | hp'
  ·obtain ⟨g1,g2,g3⟩:=hr p (List.mem_append.2 (.inl hp'))
   refine ⟨g1,?_,g3⟩
   rw [World.putObj_heap_other ?_]
   ·exact g2
   ·rcases List.mem_append.1 hp' with hp' | hp'
    ·exact hlr p hp'
    ·obtain ⟨E,hE,rfl⟩:=List.mem_map.1 hp'
     exact fun e=>hlD (e▸hE)
  ·obtain rfl:=List.mem_singleton.1 hp'
   exact ⟨hlo,World.putObj_heap_same (Array.getElem?_eq_some_iff.1 hll.2.1).1,⟨fun _ _ _ e=>(by cases e),fun _ _ e=>(by cases e)⟩⟩
 have hputL:∀ {s pe} {w2:World} {s' pe'},(∀ p,p∈recI s pe→cx.w0.heap.size≤p.1∧w2.heap[p.1]? =some p.2∧NoCells p.2)→Objs cx.w0.heap.size w2 (w2.putObj l (.loop (rec s' pe'))):=by
  intro s pe w2 s' pe' hr
  have hll:=hr (l,.loop (rec s pe)) (by simp [recI])
  exact Objs.put _ hll.2.1 hll.2.2 hlo
 let post:Ending→World→Prop:=rangePost (FR ρ) 0 P l (SatK P ρ k Q) { a with defers:=(Dm++Ds).map mark }
 refine callsIn_FR.2 (callsIn_wide.1 (callsIn_of_wp_marks (F:=Fence.wide) (n:=0) hf hb trivial ?_ (R:=post)))
 have hend:∀ (s:LoopState) (pe:Option Code) (k':List K),s≠ .busy→(∀ a' w',SatK P ρ k' Q .normal a' w'→match pe with | none=>SatK P ρ k Q .normal a' w' | some c=>c.wpIn (FR ρ) 0 P (SatK P ρ k Q) a' w')→
  FinOk (cxI s pe) (bodyPostM Fence.wide 0 P fn post) (onlyEnd fun s=>AR P ρ cx Q k' ⟨keptSl st.sl ts,s.bx,s.lb⟩):=by
  intro s pe k' hsb hk' s2 m2 a2 w2 R2
  suffices key:AR P ρ cx Q k' ⟨keptSl st.sl ts,s2.bx,s2.lb⟩→LeavesInM Fence.wide 0 P fn a2.tmps post a2.defers .returning w2 from ⟨key,key,fun _ h=>h.elim⟩
  intro hgo
  obtain ⟨Ds3,hm3⟩:=R2.defers
  obtain ⟨w3,R3,-,-,h4⟩:=leave_marks (P:=P) R2 hm3
  obtain ⟨v,g1,-⟩:=ret_run (P:=P) hty R3 (fn:=fn) (by rw [hres]; exact trivial)
  refine h4 ⟨v,g1,?_⟩
  have hll:=R3.recs (l,.loop (rec s pe)) (by simp [cxI,recI])
  refine ⟨pe,w3.putObj l (.loop { rec s pe with state:= .exhausted }),?_,?_⟩
  ·have:=run_endLoop (P:=P) hll.2.1 (by rw [hrec]; exact hsb)
   rw [this]; rw [hrec]; rfl
  ·refine hk' _ _ (hgo m2 _ _ ?_)
   have e:({ rec s pe with state:= .exhausted }:Loop)=rec .exhausted pe:=by rw [hrec]; rfl
   rw [e]
   have hall:=hrecI (s':= .exhausted) (pe':=pe) R3.recs
   refine Rel.recast (cx:=cxI s pe) (a':= { a with defers:=(Dm++Ds).map mark }) R3 (hputL R3.recs) (nt:=cx.nt) (sus:=cx.sus) (recs:=cx.recs) (Ds:=Dm++Ds) ⟨rfl,hm1.nodup,hm1.lo,fun E hE=> ?_,hm1.own⟩
    (fun p hp=>hall p (by simp [recI,hp])) R1.nt (fun t v ht=> ?_) (fun q hq=>R3.sus q (List.mem_append.2 (.inl hq)))
   ·exact (hall (E,.deferred (some [])) (by simp only [recI]; exact List.mem_append.2 (.inl (List.mem_append.2 (.inr (List.mem_map.2 ⟨E,hE,rfl⟩)))))).2.1
   ·obtain ⟨k1,k2⟩:=lk_kept ht
    exact ⟨(R1.slots t v k1).1,R3.sus (v,a.tmps.getD t undef) (List.mem_append.2 (.inr (List.mem_map.2 ⟨(t,v),k2,rfl⟩)))⟩
 have hSI:Stop P ty tb n' draw' (onlyEnd fun s=>AR P ρ cx Q k ⟨keptSl st.sl ts,s.bx,s.lb⟩) (AR P none (cxI .ready none) (bodyPostM Fence.wide 0 P fn post)) (sus++snds (keptSl st.sl ts)):=
  ⟨cxI .ready none,_,none,rfl,hsusI,hty,htb,hdraw' _ rfl,hend .ready none k (by simp) (fun _ _ h=>h),(fun _ h=>by cases h),rfl⟩
 have hSJ:∀ j:Jmp,Stop P ty tb n' draw' (onlyEnd fun s=>AR P ρ cx Q (.code j.code::k) ⟨keptSl st.sl ts,s.bx,s.lb⟩) (AR P none (cxI .done (some j.code)) (bodyPostM Fence.wide 0 P fn post)) (sus++snds (keptSl st.sl ts)):=
  fun j=>⟨cxI .done (some j.code),_,none,rfl,hsusI,hty,htb,hdraw' _ rfl,hend .done (some j.code) (.code j.code::k) (by simp) (fun _ _ h=>h),(fun _ h=>by cases h),rfl⟩
 refine h l _ (fun j=>AR P none (cxI .done (some j.code)) (bodyPostM Fence.wide 0 P fn post)) hSI hSJ ?_ m _ w1 ?_
 ·intro id ops kI stI i tsI o xo args tys d ho hop hg hdd hd hsz hY
  subst hdd
  intro m2 a2 w2 R2
  refine wpIn_region ?_
  have hi:i<ops.size:=(Array.getElem?_eq_some_iff.1 ho).1
  have hsplit:List.range ops.size=List.range i++i::restIx ops (i+1):=by
   have e1:ops.size=i+((ops.size - (i+1))+1):=by omega
   conv=>lhs; rw [e1,List.range_add,List.range_succ_eq_map]
   simp only [restIx,List.map_cons,List.map_map,Nat.add_zero]
   congr 2
   apply List.map_congr_left
   intro x _
   simp; omega
  rw [hsplit]
  have e:=evIdx_mid ty tb n' ops.toList (ops.toList.take i) [] (ops.toList.drop i) stI (by simp)
  have e2:(ops.toList.take i).length=i:=by simp; omega
  simp only [e2,List.length_nil,Nat.zero_add,List.map_id'] at e
  rw [← e] at hY
  generalize hq:evIdx ty tb n' ops.toList (List.range i) stI=q at hY
  obtain ⟨p,st1⟩:=q
  obtain ⟨hp,hxo,hA⟩:=hY
  refine ops_app (cx:=cxI .ready none) hty htb (List.range i) stI m2 a2 w2 R2 (by rw [hq]; exact hp) (fun m3 a3 w3 R3=> ?_)
  rw [hq] at R3
  simp only [wpOpsIn,ho]
  rw [if_pos (by simp [Region.wanted,hg])]
  have hxv3:a3.eval xo= .func (.yield l) #[] #[]:=by
   have:=R3.val xo
   rw [hxo] at this; exact this
  have hl3:=R3.recs (l,.loop (rec .ready none)) (by simp [cxI,recI])
  have hexec:(execOp a3.eval o).run P w3= .ok (.round l fnO (putVs ps.toList (args.toList.map a3.eval) a.tmps) assign body) w3:=by
   have hy:=run_yield (P:=P) (args:=args.map a3.eval) hl3.2.1 (by rw [hrec]; simpa [recOf] using hsz)
   rw [hrec] at hy
   simp only [execOp,hop,resolve,hxv3,Deferred.ofValue,Sem.run_bind,Sem.run_pure,Result.andThen_ok,invoke,Array.empty_append,Array.append_empty]
   rw [hy]
   simp only [recOf, ← Array.foldl_toList,Array.toList_zip,Array.toList_map]
   rw [← putVs_fold]
  refine ⟨fun _ _=>trivial,?_⟩
  rw [Oper.semAt_eq _ _ _ (fun c e=>by rw [hop] at e; cases e),hexec,Oper.uponIn_round]
  refine ⟨(fun e=>by cases e),roundIn_of_wpIn (F:=FR none) trivial ?_⟩
  obtain ⟨Ds3,hm3⟩:=R3.defers
  let susA:List (AV×Value):=susI++(keptSl st1.sl tsI).map fun q=>(q.2,a3.tmps.getD q.1 undef)
  let cxA:LoopState→Cx:=fun s=> { cx with nt:=cx.nt,sus:=susA,recs:=recI s none++Ds3.map fun D=>(D,Obj.deferred (some [])) }
  have hsusA:susA.map (·.1)=sus++snds (keptSl st.sl ts)++snds (keptSl st1.sl tsI):=by simp only [susA,List.map_append,hsusI,List.map_map,snds_map]; rfl
  have hl3n:∀ E∈Ds3,E≠l:=fun E hE e=>hm3.own E hE (l,.loop (rec .ready none)) (by simp [cxI,recI]) e.symm
  have hrecA:∀ {s s':LoopState} {w4:World},(∀ p,p∈(cxA s).recs→cx.w0.heap.size≤p.1∧w4.heap[p.1]? =some p.2∧NoCells p.2)→∀ (s':LoopState) (pe':Option Code),
   (∀ p,p∈recI s' pe'++Ds3.map (fun D=>(D,Obj.deferred (some [])))→cx.w0.heap.size≤p.1∧(w4.putObj l (.loop (rec s' pe'))).heap[p.1]? =some p.2∧NoCells p.2):=by
   intro s _ w4 hr s' pe' p hp
   rcases List.mem_append.1 hp with hp | hp
   ·exact hrecI (fun p hp=>hr p (List.mem_append.2 (.inl hp))) p hp
   ·obtain ⟨g1,g2,g3⟩:=hr p (List.mem_append.2 (.inr hp))
    obtain ⟨E,hE,rfl⟩:=List.mem_map.1 hp
    exact ⟨g1,by rw [World.putObj_heap_other (hl3n E hE)]; exact g2,g3⟩
  have back:∀ {s m4 a4 w4},Rel (cxA .busy) s m4 a4 w4→∀ (s':LoopState) (pe':Option Code) (b:Bool),
   Rel (cxI s' pe') ((⟨keptSl st1.sl tsI,s.bx,s.lb⟩:St).done o.dst ⟨True,.c (.d (.bool b)),[]⟩) m4 (a3.put o.dst (.bool b)) (w4.putObj l (.loop (rec s' pe'))):=by
   intro s m4 a4 w4 R4 s' pe' b
   have hall:=hrecA (s:= .busy) (s':=s') R4.recs s' pe'
   have R5:Rel (cxI s' pe') ⟨keptSl st1.sl tsI,s.bx,s.lb⟩ m4 a3 (w4.putObj l (.loop (rec s' pe'))):=by
    refine Rel.recast (cx:=cxA .busy) (a':=a3) R4 (hputL (fun p hp=>R4.recs p (List.mem_append.2 (.inl hp)))) (nt:=n') (sus:=susI) (recs:=recI s' pe') (Ds:=Ds3) ⟨hm3.eq,hm3.nodup,hm3.lo,fun E hE=> ?_,fun E hE p hp=> ?_⟩
     (fun p hp=>hall p (List.mem_append.2 (.inl hp))) R3.nt (fun t v ht=> ?_) (fun q hq=>R4.sus q (List.mem_append.2 (.inl hq)))
    ·exact (hall (E,.deferred (some [])) (List.mem_append.2 (.inr (List.mem_map.2 ⟨E,hE,rfl⟩)))).2.1
    ·rcases List.mem_append.1 hp with hp | hp
     ·exact hm3.own E hE p (List.mem_append.2 (.inl hp))
     ·obtain rfl:=List.mem_singleton.1 hp
      exact fun e=>hl3n E hE e.symm
    ·obtain ⟨k1,k2⟩:=lk_kept ht
     exact ⟨(R3.slots t v k1).1,R4.sus (v,a3.tmps.getD t undef) (List.mem_append.2 (.inr (List.mem_map.2 ⟨(t,v),k2,rfl⟩)))⟩
   exact rel_done (cx:=cxI s' pe') (st:=⟨keptSl st1.sl tsI,s.bx,s.lb⟩) (out:=⟨True,.c (.d (.bool b)),[]⟩) R5 hd (v:= .bool b) (RD.bool b)
  refine hA (AR P (some l) (cxA .ready) _) ⟨cxA .ready,_,some l,rfl,hsusA,hty,htb,hdraw _ rfl,?_,(fun l' e=>⟨rec .ready none,by obtain rfl:=Option.some.inj e; simp [cxA,recI]⟩),rfl⟩ m3 { tmps:=putVs ps.toList (args.toList.map a3.eval) a.tmps,defers:=[] } w3 ?_
  ·intro s4 m4 a4 w4 R4
   refine ⟨fun hB=> ?_,fun h=>h.elim,fun _ h=>h.elim⟩
   have hl4:=R4.recs (l,.loop (rec .ready none)) (by simp [cxA,recI])
   refine ⟨_,run_beginRound hl4.2.1 (by rw [hrec]; rfl),?_⟩
   have e5:({ rec .ready none with state:= .busy }:Loop)=rec .busy none:=by rw [hrec]; rfl
   rw [e5]
   refine hB (AR P (some l) (cxA .busy) _) ⟨cxA .busy,_,some l,rfl,hsusA,hty,htb,hdraw _ rfl,?_,(fun l' e=>⟨rec .busy none,by obtain rfl:=Option.some.inj e; simp [cxA,recI]⟩),rfl⟩ m4 a4 _ ?_
   ·intro s6 m6 a6 w6 R6
    have hl6:=R6.recs (l,.loop (rec .busy none)) (by simp [cxA,recI])
    have hrun:∀ jump:Option Code,(Instr.endRound l jump).run P w6= .ok (.bool jump.isNone) (w6.putObj l (.loop (rec (if jump.isNone then .ready else .done) jump))):=fun jump=>by
     have:=run_endRound (P:=P) jump hl6.2.1
     rw [hrec] at this ⊢; exact this
    exact ⟨fun hf=>⟨_,_,hrun none,hf m6 _ _ (back R6 .ready none true)⟩,fun hf=>⟨_,_,hrun (some .ret),hf m6 _ _ (back R6 .done (some .ret) false)⟩,
     fun id hf=>⟨_,_,hrun (some (.exit id)),hf m6 _ _ (back R6 .done (some (.exit id)) false)⟩⟩
   ·exact Rel.recast (cx:=cxA .ready) (a':=a4) R4 (hputL (fun p hp=>R4.recs p (List.mem_append.2 (.inl hp)))) (nt:=cx.nt) (sus:=susA) (recs:=(cxA .busy).recs) (Ds:=(R4.defers.choose))
     ⟨R4.defers.choose_spec.eq,R4.defers.choose_spec.nodup,R4.defers.choose_spec.lo,fun E hE=>by
      rw [World.putObj_heap_other]
      ·exact R4.defers.choose_spec.here E hE
      ·exact fun e=>R4.defers.choose_spec.own E hE (l,.loop (rec .ready none)) (by simp [cxA,recI]) e.symm,fun E hE p hp=>by
      rcases List.mem_append.1 hp with hp | hp
      ·rcases List.mem_append.1 hp with hp | hp
       ·exact R4.defers.choose_spec.own E hE p (List.mem_append.2 (.inl (List.mem_append.2 (.inl hp))))
       ·obtain rfl:=List.mem_singleton.1 hp
        exact R4.defers.choose_spec.own E hE (l,.loop (rec .ready none)) (by simp [cxA,recI])
      ·exact R4.defers.choose_spec.own E hE p (List.mem_append.2 (.inr hp))⟩
     (hrecA (s:= .ready) (s':= .busy) R4.recs .busy none) R4.nt R4.slots R4.sus
  ·refine Rel.recast (cx:=cxI .ready none) (a':= { tmps:=putVs ps.toList (args.toList.map a3.eval) a.tmps,defers:=[] }) R3 (.refl _ _) (nt:=cx.nt) (sus:=susA) (recs:=(cxA .ready).recs) (Ds:=[]) marks_nil (recs_app R3 hm3) ?_ ?_ (fun q hq=> ?_)
   ·show (putVs _ _ _).size=_
    rw [putVs_size]; exact R1.nt
   ·refine putPs_rel R1.nt hps (by simp [valsOf_map]) (fun i hi=> ?_) (fun t v ht=> ?_)
    ·simp only [valsOf_map,List.length_map] at hi
     have e6:(valsOf st1 args.toList).getD i default=valOf st1 (args.toList[i]):=by rw [valsOf_map,List.getD_eq_getElem?_getD,List.getElem?_map,List.getElem?_eq_getElem hi]; rfl
     have e7:(args.toList.map a3.eval).getD i undef=a3.eval (args.toList[i]):=by rw [List.getD_eq_getElem?_getD,List.getElem?_map,List.getElem?_eq_getElem hi]; rfl
     rw [e6,e7]; exact R3.val _
    ·obtain ⟨k1,k2⟩:=lk_kept ht
     exact ⟨(R1.slots t v k1).1,R3.sus (v,a.tmps.getD t undef) (List.mem_append.2 (.inr (List.mem_map.2 ⟨(t,v),k2,rfl⟩)))⟩
   ·rcases List.mem_append.1 hq with hq | hq
    ·exact R3.sus q hq
    ·obtain ⟨r,hr,rfl⟩:=List.mem_map.1 hq
     exact (R3.slots r.1 r.2 (mem_kept hr)).2
 ·refine Rel.recast (a':= { tmps:=(bs++ #[Value.func (.yield l) #[] #[]]++vs)++Array.replicate (fn.ntmps - (bs++ #[Value.func (.yield l) #[] #[]]++vs).size) undef,defers:=[] }) R1 (.refl _ _) (nt:=n') (sus:=susI) (recs:=recI .ready none) (Ds:=[]) marks_nil (fun p hp=> ?_) ?_ (fun t v ht=> ?_) (fun q hq=> ?_)
  ·rcases List.mem_append.1 hp with hp | hp
   ·rcases List.mem_append.1 hp with hp | hp
    ·exact R1.recs p hp
    ·obtain ⟨E,hE,rfl⟩:=List.mem_map.1 hp
     exact ⟨hm1.lo E hE,hm1.here E hE,⟨fun _ _ _ e=>(by cases e),fun _ _ e=>(by cases e)⟩⟩
   ·obtain rfl:=List.mem_singleton.1 hp
    exact ⟨hlo,hL1,⟨fun _ _ _ e=>(by cases e),fun _ _ e=>(by cases e)⟩⟩
  ·simp [hn,hvs,hbs]; omega
  ·obtain ⟨j,hj,e⟩:=lk_inSl ht
   obtain rfl:t=j:=by omega
   have hlt:=(List.getElem?_eq_some_iff.1 hj).1
   simp only [List.length_append,List.length_cons] at hlt
   refine ⟨by omega,?_⟩
   have hsz:t<(bs++ #[Value.func (.yield l) #[] #[]]++vs).size:=by simp [hvs,hbs]; omega
   have hget:((bs++ #[Value.func (.yield l) #[] #[]]++vs)++Array.replicate (fn.ntmps - (bs++ #[Value.func (.yield l) #[] #[]]++vs).size) undef).getD t undef=(bs++ #[Value.func (.yield l) #[] #[]]++vs).getD t undef:=by
    rw [Array.getD_eq_getD_getElem?,Array.getElem?_append_left hsz,Array.getD_eq_getD_getElem?]
   rw [hget]
   by_cases h1:t<pre.length
   ·rw [List.getElem?_append_left h1] at hj
    have e3:(bs++ #[Value.func (.yield l) #[] #[]]++vs).getD t undef=bs.getD t undef:=by
     rw [Array.append_assoc,Array.getD_eq_getD_getElem?,Array.getElem?_append_left (by rw [hbs]; exact h1),Array.getD_eq_getD_getElem?]
    rw [e3]
    have:=hbc t h1
    rw [List.getD_eq_getElem?_getD,hj] at this
    exact this
   ·rw [List.getElem?_append_right (by omega)] at hj
    by_cases h2:t=pre.length
    ·subst h2
     rw [Nat.sub_self] at hj
     obtain rfl:AV.c (.yld l)=v:=by simpa using hj
     have e3:(bs++ #[Value.func (.yield l) #[] #[]]++vs).getD pre.length undef= .func (.yield l) #[] #[]:=by
      rw [Array.getD_eq_getD_getElem?,Array.getElem?_append_left (by simp [hbs]),Array.getElem?_append_right (by omega)]
      simp [hbs]
     rw [e3]; exact rfl
    ·obtain ⟨j,rfl⟩:∃ j,t=pre.length+1+j:=⟨t - (pre.length+1),by omega⟩
     rw [show pre.length+1+j - pre.length=j+1 by omega,List.getElem?_cons_succ] at hj
     have e3:(bs++ #[Value.func (.yield l) #[] #[]]++vs).getD (pre.length+1+j) undef=vs.getD j undef:=by
      rw [Array.getD_eq_getD_getElem?,Array.getElem?_append_right (by simp [hbs]),Array.getD_eq_getD_getElem?]
      congr 2
      simp [hbs]
     rw [e3]
     have:=hvc j (by omega)
     rw [List.getD_eq_getElem?_getD,hj] at this
     exact this
  ·rcases List.mem_append.1 hq with hq | hq
   ·exact R1.sus q hq
   ·obtain ⟨r,hr,rfl⟩:=List.mem_map.1 hq
    exact (R1.slots r.1 r.2 (mem_kept hr)).2
def allD:List AC→Option (List D)
 | []=>some []
 | .d x::r=>match allD r with
  | some l=>some (x::l)
  | none=>none
 | _=>none
theorem allD_eq:∀ {l:List AC} {ds:List D},allD l=some ds→l=ds.map .d
 | [],ds,h=>by obtain rfl:=Option.some.inj h; rfl
 | x::r,ds,h=>by
  cases x with
  | d y=>
   simp only [allD] at h
   split at h
   ·rename_i l e
    obtain rfl:=Option.some.inj h
    rw [allD_eq e]; rfl
   ·cases h
  | _=>simp [allD] at h
def boundG (stop:List K→St→Prop) (k:List K) (t d g:Nat):Prop×St→Prop
 | (p,st1)=>p∧match lk st1.sl t with
  | some (.u (.agg cs))=>match allD cs with
   | some ds=>stop k (st1.slot d (.c (.bnd g ds)))
   | none=>False
  | _=>False
theorem Stop.bound {n:Nat} {draw:List Oper→St→Prop} {fin':Jmp→St→Prop} {stop:List K→St→Prop} {sus:List AV} (S:Stop P ty tb n draw fin' stop sus) {id:Nat} {ops:Array Oper} {k:List K} {st:St}
 (i t d:Nat) {o:Oper} {g:Nat} (ho:ops[i]? =some o) (hop:o.op= .makeFunc (.func g) #[.tmp t] #[]) (hg:o.guard=none) (hd:o.dst=some d) (hdn:d<n)
 (h:boundG stop (.ops ops (i+1)::k) t d g (evSeq ty tb n (ops.toList.map (·.dst)) (ops.toList.take i) st)):stop (.code (.region id ops false)::k) st:=by
 obtain ⟨cx,Q,ρ,rfl,hs,hty,htb,hd0,hfin,hrd,rfl⟩:=S.ex
 intro m a w R
 refine wpIn_region ?_
 have hi:i<ops.size:=(Array.getElem?_eq_some_iff.1 ho).1
 have hsplit:List.range ops.size=List.range i++i::restIx ops (i+1):=by
  have e1:ops.size=i+((ops.size - (i+1))+1):=by omega
  conv=>lhs; rw [e1,List.range_add,List.range_succ_eq_map]
  simp only [restIx,List.map_cons,List.map_map,Nat.add_zero]
  congr 2
  apply List.map_congr_left
  intro x _
  simp; omega
 rw [hsplit]
 have e:=evIdx_mid ty tb cx.nt ops.toList (ops.toList.take i) [] (ops.toList.drop i) st (by simp)
 have e2:(ops.toList.take i).length=i:=by simp; omega
 simp only [e2,List.length_nil,Nat.zero_add,List.map_id'] at e
 rw [← e] at h
 generalize hq:evIdx ty tb cx.nt ops.toList (List.range i) st=q at h
 obtain ⟨p,st1⟩:=q
 obtain ⟨hp,h⟩:=h
 refine ops_app hty htb (List.range i) st m a w R (by rw [hq]; exact hp) (fun m1 a1 w1 R1=> ?_)
 rw [hq] at R1
 simp only [wpOpsIn,ho]
 rw [if_pos (by simp [Region.wanted,hg])]
 refine wpIn_of_wp (fun c e=>by rw [hop] at e; cases e) ?_
 split at h
 ·rename_i cs hcs
  split at h
  ·rename_i ds hds
   obtain rfl:=allD_eq hds
   obtain ⟨us,hv,hsz,hc⟩:=(R1.slots t _ hcs).2
   have hexec:(execOp a1.eval o).run P w1= .ok (.value (.func (.func g) #[.agg us] #[])) w1:=by
    have e3:a1.eval (.tmp t)= .agg us:=hv
    simp only [execOp,hop,List.map_toArray,List.map_cons,List.map_nil,e3]
    simp [Instr.makeFunc,go_sem]
   unfold Oper.wp
   rw [hexec,Oper.upon_value,hd]
   refine h m1 _ w1 (R1.slot (t:=d) (v:= .c (.bnd g ds)) hdn ⟨us,rfl,by simpa using hsz,fun i hi=> ?_⟩)
   obtain ⟨u,hu,hr⟩:=hc i (by simpa using hi)
   refine ⟨u,hu,?_⟩
   have e4:(ds.map AC.d).getD i .undef= .d (ds.getD i .undef):=by
    rw [List.getD_eq_getElem?_getD,List.getElem?_map,List.getD_eq_getElem?_getD,List.getElem?_eq_getElem hi]; rfl
   rw [e4] at hr
   exact hr
  ·exact h.elim
 ·exact h.elim
end
theorem nth_setAt_same (x:D) (i o:Nat) (c:List D):(x.setAt i o c).nth i=splice (x.nth i) o c:=by
 show (if i=i then _ else _)=_
 rw [if_pos rfl]
section
variable {α:Type} [Inhabited α] {s:Nat} {f:α→List D} {g:List D→α}
theorem can_sub0 {l:List α} {x:D} {hi':Nat} [h:Nonempty (PLift (hi'≤l.length))] (hx:Can s f l x):Can s f (l.take hi') (x.sub 0 hi')=True:=by
 obtain ⟨⟨h⟩⟩:=h
 have:=can_sub (lo:=0) (hi':=hi') hx h
 simpa using this
theorem can_subI {l:List α} {x:D} {lo hi':Nat} [h:Nonempty (PLift (hi'≤l.length))] (hx:Can s f l x):Can s f ((l.drop lo).take (hi' - lo)) (x.sub lo hi')=True:=by
 obtain ⟨⟨h⟩⟩:=h
 exact can_sub hx h
end
attribute [go_sem] can_sub0 can_subI nth_setAt_same putPs yieldG Jmp.code funOf boundG allD
end Go.Abs
set_option linter.unusedVariables false
set_option linter.unusedSimpArgs false
namespace Go.Abs
theorem restIx_cons {ops:Array Oper} {i:Nat} (hi:i<ops.size):restIx ops i=i::restIx ops (i+1):=by
 unfold restIx
 obtain ⟨q,hq⟩:∃ q,ops.size - i=q+1:=⟨ops.size - i - 1,by omega⟩
 rw [hq,show ops.size - (i+1)=q by omega,List.range_succ_eq_map,List.map_cons,List.map_map,Nat.add_zero]
 congr 1
 apply List.map_congr_left
 intro x _
 simp; omega
theorem restIx_app {ops:Array Oper} {i j:Nat} (h:i≤j) (hj:j≤ops.size):restIx ops i=(List.range (j - i)).map (i+ ·)++restIx ops j:=by
 unfold restIx
 rw [show ops.size - i=(j - i)+(ops.size - j) by omega,List.range_add,List.map_append,List.map_map]
 congr 1
 apply List.map_congr_left
 intro x _
 simp; omega
section
variable {P:Program} {ty:Tys} {tb:Fns} {st:St}
theorem Stop.reg0 {n:Nat} {draw:List Oper→St→Prop} {fin':Jmp→St→Prop} {stop:List K→St→Prop} {sus:List AV} (S:Stop P ty tb n draw fin' stop sus) {id:Nat} {ops:Array Oper} {k:List K}
 (h:stop (.ops ops 0::k) st):stop (.code (.region id ops false)::k) st:=by
 obtain ⟨cx,Q,ρ,rfl,hs,hty,htb,hd0,hfin,hrd,rfl⟩:=S.ex
 intro m a w R
 refine wpIn_region ?_
 have h1:wpOpsIn (FR ρ) 0 P ops (SatK P ρ k Q) (restIx ops 0) a w:=h m a w R
 have e:restIx ops 0=List.range ops.size:=by simp [restIx]
 rw [e] at h1
 exact h1
def opsG (stop:List K→St→Prop) (k:List K):Prop×St→Prop
 | (p,st1)=>p∧stop k st1
theorem Stop.opsTo {n:Nat} {draw:List Oper→St→Prop} {fin':Jmp→St→Prop} {stop:List K→St→Prop} {sus:List AV} (S:Stop P ty tb n draw fin' stop sus) {ops:Array Oper} {k:List K} (i j:Nat) (hij:i≤j) (hj:j≤ops.size)
 (h:opsG stop (.ops ops j::k) (evSeq ty tb n (ops.toList.map (·.dst)) ((ops.toList.drop i).take (j - i)) st)):stop (.ops ops i::k) st:=by
 obtain ⟨cx,Q,ρ,rfl,hs,hty,htb,hd0,hfin,hrd,rfl⟩:=S.ex
 intro m a w R
 show wpOpsIn (FR ρ) 0 P ops _ (restIx ops i) a w
 rw [restIx_app hij hj]
 have e:=evIdx_mid ty tb cx.nt ops.toList ((ops.toList.drop i).take (j - i)) (ops.toList.take i) ((ops.toList.drop i).drop (j - i)) st (by rw [List.append_assoc,List.take_append_drop,List.take_append_drop])
 have e2:(ops.toList.take i).length=i:=by simp; omega
 have e3:((ops.toList.drop i).take (j - i)).length=j - i:=by simp; omega
 simp only [e2,e3] at e
 rw [← e] at h
 exact ops_app hty htb _ st m a w R h.1 (fun m1 a1 w1 R1=>h.2 m1 a1 w1 R1)
variable {cx:Cx} {m m1 m':Mp} {a:Act} {w w':World} {o:Oper} {out:Out} {ws:List Wr}
theorem Stop.inlO {n n':Nat} {draw draw':List Oper→St→Prop} {fin':Jmp→St→Prop} {stop:List K→St→Prop} {sus:List AV} (S:Stop P ty tb n draw fin' stop sus) {ops:Array Oper} {k:List K}
 (i:Nat) (ts:List Nat) {o:Oper} {g:Nat} (caps:List Cap) {fn:Func} {c:Code} {x:Operand} {args:Array Operand} {tys:Array Nat}
 (hf:P.funcs[g]? =some fn) (hnm:(fn.name == "runtime.NumGoroutine")=false) (hb:fn.body=some c) (hn:fn.ntmps=n') (hdraw:∀ cx,cx.nt=n'→DrawOk P ty tb cx draw')
 (d:Option Nat) (ho:ops[i]? =some o) (hop:o.op= .call { callee:= .value x,args:=args,argTypes:=tys }) (hg:o.guard=none) (hdd:o.dst=d) (hd:dstOk n d) (hlen:args.size+caps.length≤n')
 (h:inlG P ty tb n' draw' stop (.ops ops (i+1)::k) sus ts d g caps fn.results.toList c x args.toList (True,st)) :
 stop (.ops ops i::k) st:=by
 subst hdd
 obtain ⟨cx,Q,ρ,rfl,hs,hty,htb,hd0,hfin,hrd,rfl⟩:=S.ex
 intro m1 a1 w1 R1
 have hi:i<ops.size:=(Array.getElem?_eq_some_iff.1 ho).1
 have hsplit:restIx ops i=i::restIx ops (i+1):=restIx_cons hi
 show wpOpsIn (FR ρ) 0 P ops _ (restIx ops i) a1 w1
 rw [hsplit]
 obtain ⟨-,hx,h⟩:=h
 simp only [wpOpsIn,ho]
 rw [if_pos (by simp [Region.wanted,hg])]
 refine wpIn_of_wp (fun c e=>by rw [hop] at e; cases e) ?_
 have hxv:=R1.val x
 simp only [hx] at hxv
 obtain ⟨vs,hv,hvs,hvc⟩:=hxv
 have hexec:(execOp a1.eval o).run P w1= .ok (.enter g ((args.map a1.eval)++vs)) w1:=by
  simp only [execOp,hop,resolve,hv,Deferred.ofValue,Sem.run_bind,Sem.run_pure,Result.andThen_ok,invoke,Array.empty_append]
  exact run_callFunc hf hnm (by rw [hb]; rfl) _
 unfold Oper.wp
 rw [hexec,Oper.upon_enter]
 refine callsIn_wide.1 (callsIn_of_wp_marks (F:=Fence.wide) (n:=0) hf hb trivial ?_)
 obtain ⟨Ds1,hm1⟩:=R1.defers
 let cx':Cx:= { cx with nt:=n',sus:=cx.sus++(keptSl st.sl ts).map fun q=>(q.2,a1.tmps.getD q.1 undef),recs:=cx.recs++Ds1.map fun D=>(D,.deferred (some [])) }
 have R2:Rel cx' ⟨inSl 0 (valsOf st args.toList++caps.map capAV),st.bx,st.lb⟩ m1 { tmps:=(args.map a1.eval++vs)++Array.replicate (fn.ntmps - (args.map a1.eval++vs).size) undef,defers:=[] } w1:=by
  refine Rel.recast (a':= { tmps:=(args.map a1.eval++vs)++Array.replicate (fn.ntmps - (args.map a1.eval++vs).size) undef,defers:=[] }) R1 (.refl _ _) (Ds:=[]) marks_nil (recs_app R1 hm1) ?_ (fun t v ht=> ?_) (fun q hq=> ?_)
  ·simp [hn,hvs]; omega
  ·obtain ⟨j,hj,e⟩:=lk_inSl ht
   obtain rfl:t=j:=by omega
   have hlt:=(List.getElem?_eq_some_iff.1 hj).1
   simp only [List.length_append,List.length_map,valsOf_map,Array.length_toList] at hlt
   refine ⟨by show t<n'; omega,?_⟩
   have hsz:t<(args.map a1.eval++vs).size:=by simp [hvs]; exact hlt
   have hget:((args.map a1.eval++vs)++Array.replicate (fn.ntmps - (args.map a1.eval++vs).size) undef).getD t undef=(args.map a1.eval++vs).getD t undef:=by
    rw [Array.getD_eq_getD_getElem?,Array.getElem?_append_left hsz,Array.getD_eq_getD_getElem?]
   rw [hget]
   by_cases hta:t<args.size
   ·rw [List.getElem?_append_left (by simpa [valsOf_map] using hta),valsOf_map,List.getElem?_map,Option.map_eq_some_iff] at hj
    obtain ⟨y,hy,rfl⟩:=hj
    have e3:(args.map a1.eval++vs).getD t undef=a1.eval y:=by
     rw [Array.getD_eq_getD_getElem?,Array.getElem?_append_left (by simpa using hta),Array.getElem?_map]
     rw [Array.getElem?_toList] at hy
     simp [hy]
    rw [e3]; exact R1.val y
   ·rw [List.getElem?_append_right (by simp [valsOf_map]; omega),List.getElem?_map,Option.map_eq_some_iff] at hj
    obtain ⟨y,hy,rfl⟩:=hj
    simp only [valsOf_map,List.length_map,Array.length_toList] at hy
    obtain ⟨u,hu,hr⟩:=hvc (t - args.size) (by omega)
    have e3:(args.map a1.eval++vs).getD t undef=u:=by
     rw [Array.getD_eq_getD_getElem?,Array.getElem?_append_right (by simp; omega)]
     simp [hu]
    rw [e3]
    have e4:caps.getD (t - args.size) (.ref 0 0)=y:=by simp [List.getD_eq_getElem?_getD,hy]
    rw [e4] at hr
    cases y with
    | ref b off=>exact hr
    | sptr l off=>exact hr
  ·rcases List.mem_append.1 hq with hq | hq
   ·exact R1.sus q hq
   ·obtain ⟨r,hr,rfl⟩:=List.mem_map.1 hq
    exact (R1.slots r.1 r.2 (mem_kept hr)).2
 refine h (AR P none cx' (bodyPostM Fence.wide 0 P fn _)) ⟨cx',_,none,rfl,?_,hty,htb,hdraw cx' rfl,?_,(fun _ h=>by cases h),rfl⟩ _ _ _ R2
 ·simp only [cx',List.map_append,hs,List.map_map,snds_map]; rfl
 ·intro s m2 a2 w2 R3'
  suffices key:inlFin ty fn.results.toList (AR P ρ cx Q) (.ops ops (i+1)::k) (keptSl st.sl ts) o.dst s→LeavesInM Fence.wide 0 P fn a2.tmps _ a2.defers .returning w2 from ⟨key,key,fun _ h=>h.elim⟩
  intro hfin2
  obtain ⟨Ds3,hm3⟩:=R3'.defers
  obtain ⟨w3,R3,-,-,h4⟩:=leave_marks (P:=P) R3' hm3
  obtain ⟨f1,f2⟩:=hfin2
  obtain ⟨v,g1,g2⟩:=ret_run (P:=P) hty R3 f1
  refine h4 ⟨v,g1,?_⟩
  have R4:Rel cx ⟨keptSl st.sl ts,s.bx,s.lb⟩ m2 a1 w3:=by
   refine Rel.recast (cx:=cx') (a':=a1) R3 (.refl _ _) (nt:=cx.nt) (sus:=cx.sus) (recs:=cx.recs) (Ds:=Ds1) (marks_back (cx:=cx) (L:=[]) R3 hm1 (by simp [cx'])) (fun p hp=>R3.recs p (List.mem_append.2 (.inl hp))) R1.nt (fun t v ht=> ?_) (fun q hq=>R3.sus q (List.mem_append.2 (.inl hq)))
   obtain ⟨k1,k2⟩:=lk_kept ht
   exact ⟨(R1.slots t v k1).1,R3.sus (v,a1.tmps.getD t undef) (List.mem_append.2 (.inr (List.mem_map.2 ⟨(t,v),k2,rfl⟩)))⟩
  have R5:=rel_done (st:=⟨keptSl st.sl ts,s.bx,s.lb⟩) (out:=⟨True,retAV (retAll ty s fn.results.toList).2,[]⟩) R4 hd (v:=v) g2
  exact f2 m2 (a1.put o.dst v) w3 R5
theorem Stop.inl {n n':Nat} {draw draw':List Oper→St→Prop} {fin':Jmp→St→Prop} {stop:List K→St→Prop} {sus:List AV} (S:Stop P ty tb n draw fin' stop sus) {id:Nat} {ops:Array Oper} {k:List K}
 (i:Nat) (ts:List Nat) {o:Oper} {g:Nat} (caps:List Cap) {fn:Func} {c:Code} {x:Operand} {args:Array Operand} {tys:Array Nat}
 (hf:P.funcs[g]? =some fn) (hnm:(fn.name == "runtime.NumGoroutine")=false) (hb:fn.body=some c) (hn:fn.ntmps=n') (hdraw:∀ cx,cx.nt=n'→DrawOk P ty tb cx draw')
 (d:Option Nat) (ho:ops[i]? =some o) (hop:o.op= .call { callee:= .value x,args:=args,argTypes:=tys }) (hg:o.guard=none) (hdd:o.dst=d) (hd:dstOk n d) (hlen:args.size+caps.length≤n')
 (h:inlG P ty tb n' draw' stop (.ops ops (i+1)::k) sus ts d g caps fn.results.toList c x args.toList (evSeq ty tb n (ops.toList.map (·.dst)) (ops.toList.take i) st)) :
 stop (.code (.region id ops false)::k) st:=by
 have hi:i<ops.size:=(Array.getElem?_eq_some_iff.1 ho).1
 refine S.reg0 (S.opsTo 0 i (Nat.zero_le _) (Nat.le_of_lt hi) ?_)
 rw [List.drop_zero,Nat.sub_zero]
 generalize evSeq ty tb n (ops.toList.map (·.dst)) (ops.toList.take i) st=q at h
 exact ⟨h.1,S.inlO i ts caps hf hnm hb hn hdraw d ho hop hg hdd hd hlen ⟨trivial,h.2⟩⟩
def clipG (stop:List K→St→Prop) (k:List K) (t d:Nat) (st:St):Prop:=
 match (lk st.sl t).getD default with
 | .u (.c .nils)=>stop k (st.slot d (.c (.clp (.sl 0 0 fun _=>[]))))
 | .u (.c (.d x))=>x.isSl=true∧stop k (st.slot d (.c (.clp x)))
 | .u (.c (.own j))=>
  match lk st.lb j with
  | some (.shared x)=>stop k (st.slot d (.c (.clp x)))
  | _=>False
 | _=>False
end
attribute [go_sem] opsG clipG
end Go.Abs

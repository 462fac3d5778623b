import Derived.Test.YtnepigpnlnmlmaaGreatDoorAbsB
import Derived.Orders
import Derived.Test.YtnepigpnlnmlmaaGreatDoorAbsA
import Derived.IntWalk
import Derived.Laws.Cover3
set_option linter.unusedVariables false
set_option linter.unusedSimpArgs false
namespace Go.dR
inductive K where
 | code (c:Code)
 | blk (id:Nat)
 | lp (c:Code)
 | ops (ops:Array Oper) (i:Nat)
def gy (ops:Array Oper) (i:Nat):List Nat:=(List.range (ops.size - i)).map (i+ ·)
def Ox (P:Program) (ρ:Option Nat) (c:Code) (Q:Exit->Act->World->Prop) (a:Act) (w:World):Prop:=
 ∀ (b:Frame) (k:List Item) (cs:List Frame),b.roundOf=ρ->∃ e a' w',Q e a' w'/\ArrivesIn (Machine.fenced P (FR ρ)) P (lone (b.atR a (.code c:: .inLoop c::k)) cs w) b k cs e a' w'
theorem abv {ρ:Option Nat} (n:Nat):(FR ρ).room n:=λd h=>by cases h
section
variable {P:Program} {ρ:Option Nat} {Q:Exit->Act->World->Prop} {a:Act} {w:World} {c:Code}
theorem Qk (h:c.wpIn (FR ρ) 0 P (Exit.then (Ox P ρ c Q) Q) a w):Ox P ρ c Q a w:=by
 intro b k cs hro
 obtain ⟨e,a₁,w₁,hq,harr⟩:=h b (.inLoop c::k) cs hro trivial (abv _)
 cases e with
 | normal=>
  obtain ⟨e₂,a₂,w₂,hq₂,harr₂⟩:=hq b k cs hro
  exact ⟨e₂,a₂,w₂,hq₂,.of_steps (StepsIn.trans harr (.one (fenced_calm (F:=FR ρ) (n:=0) trivial (abv _) rfl) stepR_inLoop)) harr₂⟩
 | exit id=>exact ⟨_,a₁,w₁,hq,.pass (x:= .inLoop c) rfl (λ_ _=> .inl (by simp)) harr⟩
 | goto l=>exact ⟨_,a₁,w₁,hq,.pass (x:= .inLoop c) rfl (λ_ _=> .inl (by simp)) harr⟩
 | ret=>exact ⟨_,a₁,w₁,hq,.pass (x:= .inLoop c) rfl (λ_ _=> .inl (by simp)) harr⟩
 | panic ch=>exact ⟨_,a₁,w₁,hq,.pass (x:= .inLoop c) rfl (λ_ _=> .inl (by simp)) harr⟩
 | outgrown=>exact ⟨_,a₁,w₁,hq,.pass (x:= .inLoop c) rfl (λ_ _=> .inl (by simp)) harr⟩
theorem Sv (h:Ox P ρ c Q a w):(Code.loop c).wpIn (FR ρ) 0 P Q a w:=by
 intro b k cs hro hb hr
 obtain ⟨e,a',w',hq,harr⟩:=h b k cs hro
 exact ⟨e,a',w',hq,.of_steps (.one (fenced_calm hb hr rfl) stepR_loop) harr⟩
end
def sJ (P:Program) (ρ:Option Nat):List K->(Exit->Act->World->Prop)->Exit->Act->World->Prop
 | [],Q=>Q
 | .code c::k,Q=>Exit.then (λa w=>c.wpIn (FR ρ) 0 P (sJ P ρ k Q) a w) (sJ P ρ k Q)
 | .blk id::k,Q=>Exit.inBlock id (sJ P ρ k Q)
 | .lp c::k,Q=>Exit.then (Ox P ρ c (sJ P ρ k Q)) (sJ P ρ k Q)
 | .ops ops i::k,Q=>Exit.then (λa w=>wpOpsIn (FR ρ) 0 P ops (sJ P ρ k Q) (gy ops i) a w) (sJ P ρ k Q)
def Jd (id:Nat):List K->Option (List K)
 | []=>none
 | .blk i::k=>if id=i then some k else Jd id k
 | .code _::k=>Jd id k
 | .lp _::k=>Jd id k
 | .ops _ _::k=>Jd id k
theorem rG {P:Program} {ρ:Option Nat} {Q:Exit->Act->World->Prop} {a:Act} {w:World} {id:Nat}:∀ {k k':List K},Jd id k=some k'->sJ P ρ k' Q .normal a w->sJ P ρ k Q (.exit id) a w
 | [],_,h,_=>by cases h
 | .blk i::k,k',h,hs=>by
  simp only [Jd] at h
  simp only [sJ,Exit.inBlock]
  split at h
  ·rename_i e; obtain rfl:=Option.some.inj h; rw [if_pos e]; exact hs
  ·rename_i e; rw [if_neg e]; exact rG h hs
 | .code c::k,k',h,hs=>by exact rG (k:=k) h hs
 | .lp c::k,k',h,hs=>by exact rG (k:=k) h hs
 | .ops o i::k,k',h,hs=>by exact rG (k:=k) h hs
theorem uY {P:Program} {ρ:Option Nat} {Q:Exit->Act->World->Prop} {a:Act} {w:World}:∀ {k:List K},Q .ret a w->sJ P ρ k Q .ret a w
 | [],h=>h
 | .blk i::k,h=>by exact uY (k:=k) h
 | .code c::k,h=>by exact uY (k:=k) h
 | .lp c::k,h=>by exact uY (k:=k) h
 | .ops o i::k,h=>by exact uY (k:=k) h
def AR (P:Program) (ρ:Option Nat) (cx:Cx) (Q:Exit->Act->World->Prop) (k:List K) (st:St):Prop:=
 ∀ m a w,Rel cx st m a w->sJ P ρ k Q .normal a w
theorem uZ {P:Program} {ρ:Option Nat} {Q:Exit->Act->World->Prop} {a:Act} {w:World} {id:Nat}:∀ {k:List K},Jd id k=none->Q (.exit id) a w->sJ P ρ k Q (.exit id) a w
 | [],_,h=>h
 | .blk i::k,hp,h=>by
  simp only [Jd] at hp
  simp only [sJ,Exit.inBlock]
  split at hp
  ·cases hp
  ·rename_i e; rw [if_neg e]; exact uZ hp h
 | .code c::k,hp,h=>by exact uZ (k:=k) hp h
 | .lp c::k,hp,h=>by exact uZ (k:=k) hp h
 | .ops o i::k,hp,h=>by exact uZ (k:=k) hp h
inductive Eu where
 | off
 | ret
 | exit (id:Nat)
def lu (f:St->Prop):Eu->St->Prop
 | .off,st=>f st
 | .ret,st=>f st
 | .exit _,_=>False
def Xv (f:St->Prop):Eu->St->Prop
 | .off,st=>f st
 | _,_=>False
def ahg:List Nat->Nat->Bool
 | [],_=>false
 | j::r,i=>if j=i then true else ahg r i
def vc (ty:iT) (tb:qj) (nt:Nat) (draw:List Oper->St->Prop) (fin:Eu->St->Prop) (stop:List K->St->Prop) (brk:List Nat):Nat->List K->St->Prop
 | 0,k,st=>stop k st
 | _+1,[],st=>fin .off st
 | n+1,.code .skip::k,st=>vc ty tb nt draw fin stop brk n k st
 | n+1,.code (.label _)::k,st=>vc ty tb nt draw fin stop brk n k st
 | n+1,.code (.seq a b)::k,st=>vc ty tb nt draw fin stop brk n (.code a:: .code b::k) st
 | n+1,.code (.region id ops false)::k,st=>
  if ahg brk id=true then stop (.code (.region id ops false)::k) st else (iQ ty tb nt (ops.toList.map (·.dst)) ops.toList st).1/\vc ty tb nt draw fin stop brk n k (iQ ty tb nt (ops.toList.map (·.dst)) ops.toList st).2
 | n+1,.code (.region id ops true)::k,st=>
  if ahg brk id=true then stop (.code (.region id ops true)::k) st else
  (iQ ty tb nt (ops.toList.map (·.dst)) ops.toList st).1/\draw ops.toList st/\vc ty tb nt draw fin stop brk n k (iQ ty tb nt (ops.toList.map (·.dst)) ops.toList st).2
 | n+1,.code (.cond c x y)::k,st=>
  match valOf st c with
  | .u (.c (.d (.bool b)))=>(b=true->vc ty tb nt draw fin stop brk n (.code x::k) st)/\(b=false->vc ty tb nt draw fin stop brk n (.code y::k) st)
  | _=>False
 | n+1,.code (.block id c)::k,st=>vc ty tb nt draw fin stop brk n (.code c:: .blk id::k) st
 | _+1,.code (.loop c)::k,st=>stop (.lp c::k) st
 | n+1,.code (.exit id)::k,st=>
  match Jd id k with
  | some k'=>vc ty tb nt draw fin stop brk n k' st
  | none=>fin (.exit id) st
 | _+1,.code .ret::_,st=>fin .ret st
 | n+1,.blk _::k,st=>vc ty tb nt draw fin stop brk n k st
 | _+1,.lp c::k,st=>stop (.lp c::k) st
 | n+1,.ops ops i::k,st=>
  (iQ ty tb nt (ops.toList.map (·.dst)) (ops.toList.drop i) st).1/\vc ty tb nt draw fin stop brk n k (iQ ty tb nt (ops.toList.map (·.dst)) (ops.toList.drop i) st).2
 | _+1,.code c::k,st=>stop (.code c::k) st
section
variable {P:Program} {ty:iT} {tb:qj} {cx:Cx} {Q:Exit->Act->World->Prop} {draw:List Oper->St->Prop} {fin:Eu->St->Prop} {ρ:Option Nat}
def wB (P:Program) (ty:iT) (tb:qj) (cx:Cx) (draw:List Oper->St->Prop):Prop:=
 ∀ (ρ:Option Nat) (id:Nat) (ops:Array Oper) (st:St) (Q:Exit->Act->World->Prop) (m:Mp) (a:Act) (w:World),Rel cx st m a w->(iQ ty tb cx.nt (ops.toList.map (·.dst)) ops.toList st).1->draw ops.toList st->
  (∀ m' a' w',Rel cx (iQ ty tb cx.nt (ops.toList.map (·.dst)) ops.toList st).2 m' a' w'->Q .normal a' w')->(Code.region id ops true).wpIn (FR ρ) 0 P Q a w
theorem acC (hty:iP P ty) (htb:fM P tb) {st:St} {m:Mp} {a:Act} {w:World} (R:Rel cx st m a w) {ops:Array Oper} {i:Nat} (h1:(iQ ty tb cx.nt (ops.toList.map (·.dst)) (ops.toList.drop i) st).1)
 (h2:∀ m' a' w',Rel cx (iQ ty tb cx.nt (ops.toList.map (·.dst)) (ops.toList.drop i) st).2 m' a' w'->Q .normal a' w'):wpOpsIn (FR ρ) 0 P ops Q (gy ops i) a w:=by
 by_cases hi:i<=ops.size
 ·have e:=BO ty tb cx.nt ops.toList (ops.toList.drop i) (ops.toList.take i) st (List.take_append_drop _ _).symm
  have e2:(ops.toList.take i).length=i:=by simp [hi]
  simp only [e2,List.length_drop,Array.length_toList] at e
  exact Bv hty htb _ st m a w R (by rw [gy,e]; exact h1) (by rw [gy,e]; exact h2)
 have e:ops.toList.drop i=[]:=List.drop_eq_nil_of_le (by simp; omega)
 rw [e] at h1 h2
 have e2:gy ops i=[]:=by simp [gy]; omega
 rw [e2]
 exact h2 m a w R
theorem ahW {c:Code} {k:List K} {st:St} (h:AR P ρ cx Q (.code c:: .lp c::k) st):AR P ρ cx Q (.lp c::k) st:=
 λm a w R=>Qk (h m a w R)
def Yt (cx:Cx) (Q:Exit->Act->World->Prop) (fin:Eu->St->Prop):Prop:=
 ∀ st m a w,Rel cx st m a w->(fin .off st->Q .normal a w)/\(fin .ret st->Q .ret a w)/\∀ id,fin (.exit id) st->Q (.exit id) a w
theorem afe (hty:iP P ty) (htb:fM P tb) (xO:wB P ty tb cx draw) (hfin:Yt cx Q fin) :
 ∀ (brk:List Nat) (n:Nat) (k:List K) (st:St),vc ty tb cx.nt draw fin (AR P ρ cx Q) brk n k st->AR P ρ cx Q k st:=by
 intro brk n
 induction n with
 | zero=>intro k st h; exact h
 | succ n ih=>
  intro k st h m a w R
  unfold vc at h
  split at h
  ·rename_i he; cases he
  ·exact (hfin _ m a w R).1 h
  ·exact wpIn_skip (ih _ _ (by rename_i he; obtain rfl:=Nat.succ.inj he; exact h) m a w R)
  ·exact wpIn_label (ih _ _ (by rename_i he; obtain rfl:=Nat.succ.inj he; exact h) m a w R)
  ·rename_i he; obtain rfl:=Nat.succ.inj he
   exact wpIn_seq (ih _ _ h m a w R)
  ·rename_i he; obtain rfl:=Nat.succ.inj he
   split at h
   ·exact h m a w R
   exact MF hty htb R h.1 (λm' a' w' R'=>ih _ _ h.2 m' a' w' R')
  ·rename_i he; obtain rfl:=Nat.succ.inj he
   split at h
   ·exact h m a w R
   exact xO _ _ _ _ _ m a w R h.1 h.2.1 (λm' a' w' R'=>ih _ _ h.2.2 m' a' w' R')
  ·rename_i he; obtain rfl:=Nat.succ.inj he
   split at h
   ·rename_i b hv
    have hx:=R.val ‹Operand›
    rw [hv] at hx
    refine wpIn_cond_split (qB hx) (λhb=>ih _ _ (h.1 hb) m a w R) (λhb=>ih _ _ (h.2 hb) m a w R)
   exact h.elim
  ·rename_i he; obtain rfl:=Nat.succ.inj he
   exact wpIn_block (ih _ _ h m a w R)
  ·exact Sv (h m a w R)
  ·rename_i he; obtain rfl:=Nat.succ.inj he
   split at h
   ·rename_i k' hp
    exact wpIn_exit (rG hp (ih _ _ h m a w R))
   rename_i hp
   exact wpIn_exit (uZ hp ((hfin _ m a w R).2.2 _ h))
  ·exact wpIn_ret (uY ((hfin _ m a w R).2.1 h))
  ·rename_i he; obtain rfl:=Nat.succ.inj he
   exact ih _ _ h m a w R
  ·exact h m a w R
  ·rename_i he; obtain rfl:=Nat.succ.inj he
   exact acC hty htb R h.1 (λm' a' w' R'=>ih _ _ h.2 m' a' w' R')
  exact h m a w R
def Yo:Arg->AV
 | .c x=> .c (.d x)
 | .agg l=> .agg (l.map .d)
 | .ptr l=> .c (.dM l 0)
 | .clo f caps=> .c (.clo f (caps.map λl=> .dM l 0))
def Rz:Nat->List Arg->List (Nat×AV)
 | _,[]=>[]
 | i,x::r=>(i,Yo x)::Rz (i+1) r
def St.begin (args:List Arg):St:=⟨Rz 0 args,[],[]⟩
theorem Qm:∀ {args:List Arg} {i t:Nat} {v:AV},lk (Rz i args) t=some v->∃ j x,args[j]? =some x/\t=i+j/\v=Yo x
 | [],_,_,_,h=>by cases h
 | x::r,i,t,v,h=>by
  simp only [Rz,lk] at h
  split at h
  ·rename_i e
   obtain rfl:=Option.some.inj h
   exact ⟨0,x,rfl,by omega,rfl⟩
  obtain ⟨j,y,h1,h2,h3⟩:=Qm h
  exact ⟨j+1,y,by simpa using h1,by omega,h3⟩
theorem JJ {w : World} {S : Nat -> Prop} : ∀ {args : List Arg} {vs : List Value}, jH w S args vs -> vs.length = args.length /\ ∀ (j : Nat) (x : Arg), args[j]? = some x -> ∃ v : Value, vs[j]? = some v /\ Ov w S x v
  | [], [], _ => ⟨rfl, λj x h => by simp at h⟩
  | [], _ :: _, h => h.elim
  | _ :: _, [], h => h.elim
  | y :: r, v :: vs, h => by
    obtain ⟨h1, h2⟩ := JJ h.2
    refine ⟨by simp [h1], λj x hx => ?_⟩
    cases j with
    | zero => obtain rfl : y = x := by simpa using hx
              exact ⟨v, rfl, h.1⟩
    | succ j => simpa using h2 j x (by simpa using hx)
structure Stop (P:Program) (ty:iT) (tb:qj) (n:Nat) (draw:List Oper->St->Prop) (fin:Eu->St->Prop) (stop:List K->St->Prop) (fG:List AV:=[]):Prop where
 ex:∃ (cx:Cx) (Q:Exit->Act->World->Prop) (ρ:Option Nat),cx.nt=n/\cx.fG.map (·.1)=fG/\iP P ty/\fM P tb/\wB P ty tb cx draw/\
  Yt cx Q fin/\(∀ l,ρ=some l->∃ r,(l,Obj.loop r)∈cx.recs)/\stop=AR P ρ cx Q
section
variable {n:Nat} {stop:List K->St->Prop} {fG:List AV}
theorem Stop.lp (S:Stop P ty tb n draw fin stop fG) {c:Code} {k:List K} {st:St} (h:stop (.code c:: .lp c::k) st):stop (.lp c::k) st:=by
 obtain ⟨cx,Q,ρ,-,-,-,-,-,-,-,rfl⟩:=S.ex
 exact ahW h
theorem Stop.goB (S:Stop P ty tb n draw fin stop fG) (brk:List Nat) (fuel:Nat) {k:List K} {st:St} (h:vc ty tb n draw fin stop brk fuel k st):stop k st:=by
 obtain ⟨cx,Q,ρ,rfl,-,hty,htb,hd,hf,-,rfl⟩:=S.ex
 exact afe hty htb hd hf brk fuel k st h
theorem Stop.go (S:Stop P ty tb n draw fin stop fG) (fuel:Nat) {k:List K} {st:St} (h:vc ty tb n draw fin stop [] fuel k st):stop k st:=S.goB [] fuel h
theorem Stop.weak (S:Stop P ty tb n draw fin stop fG) {k:List K} {st:St} (st':St) (hle:∀ cx m a w,cx.nt=n->cx.fG.map (·.1)=fG->Rel cx st m a w->∃ m',Rel cx st' m' a w) (h:stop k st'):stop k st:=by
 obtain ⟨cx,Q,ρ,hn,hs,-,-,-,-,-,rfl⟩:=S.ex
 intro m a w R
 obtain ⟨m',R'⟩:=hle cx m a w hn hs R
 exact h m' a w R'
end
theorem OI {f : Nat} {fn : Func} {c : Code} {sp : fO} {n : Nat} (hty : iP P ty) (htb : fM P tb) (hf : P.funcs[f]? = some fn) (hb : fn.body = some c) (hn : fn.ntmps = n)
    (xO : ∀ cx, cx.nt = n -> wB P ty tb cx draw) (fin' : List Arg -> St -> Prop)
    (awD : ∀ args cx st m a w, sp.pre args -> Rel cx st m a w -> fin' args st -> ∃ v, (results fn a.tmps).run P w = .ok v w /\ Left cx.w0 w cx.S0 sp args v)
    (nrm : List Arg -> List Arg) (aDz : ∀ args w S vs, sp.pre args -> jH w S args vs -> jH w S (nrm args) vs)
    (h : ∀ args, sp.pre args -> ∀ stop, Stop P ty tb n draw (lu (fin' args)) stop -> stop [.code c] (St.begin (nrm args))) (hlen : ∀ args, sp.pre args -> (nrm args).length <= n) : Valid P f sp := by
  intro S0 w xW vs adB hS0 hargs0 hpre
  have hle := hlen xW hpre
  have hargs := aDz xW w S0 vs.toList hpre hargs0
  generalize hq : nrm xW = args at hargs hle
  obtain ⟨g1, g2⟩ := JJ hargs
  let cx : Cx := ⟨S0, w, adB, n, [], []⟩
  refine callsIn_wide.1 (callsIn_of_wp_marks (F := Fence.wide) (n := 0) hf hb trivial ?_)
  have hR : Rel cx (St.begin args) ⟨λ_ => none, λ_ => none, λ_ _ => none, λ_ => none⟩ { tmps := vs ++ Array.replicate (fn.ntmps - vs.size) undef, defers := [] } w := by
    refine { defers := ⟨[], rfl, List.nodup_nil, λ_ h => (by cases h), λ_ h => (by cases h), λ_ h => (by cases h)⟩, recs := λp hp => (by cases hp), nt := ?_, env := .refl _, size := Nat.le_refl _, old := λ_ _ => rfl, s0 := hS0, slots := λt v ht => ?_, fG := λp hp => (by cases hp), boxes := λb cs h => (by cases h), gI := λ_ _ => rfl,
             nG := λk x h => (by cases h), gX := λ_ _ => rfl, bn := ⟨λk x h => (by cases h), λk j B h => (by cases h), λk j B h => (by cases h), λk j k' j' B h => (by cases h), λk j k' B h => (by cases h), λk j b B h => (by cases h)⟩, sets := ⟨λk x h => (by cases h), λk B h => (by cases h), λk k' B h => (by cases h)⟩, dK := λ_ _ h => (by cases h), gu := λ_ _ h => (by cases h), je := λ_ _ _ h => (by cases h), kS := λ_ _ _ h => (by cases h), sU := λ_ _ _ h => (by cases h) }
    · have : vs.size = args.length := by simpa using g1
      simp [hn, this, cx]; omega
    obtain ⟨j, x, hj, rfl, rfl⟩ := Qm ht
    obtain ⟨v, hv, hr⟩ := g2 j x hj
    have hlt := (List.getElem?_eq_some_iff.1 hj).1
    refine ⟨by show 0 + j < n; omega, ?_⟩
    have hv2 : (vs ++ Array.replicate (fn.ntmps - vs.size) undef).getD (0 + j) undef = v := by
      have hjs : j < vs.size := by have := (List.getElem?_eq_some_iff.1 hv).1; simpa using this
      rw [Nat.zero_add, Array.getD_eq_getD_getElem?, Array.getElem?_append_left hjs]
      simpa using congrArg (λo => o.getD undef) hv
    show RA cx _ w _ _ (Array.getD _ _ _)
    rw [hv2]
    have hext : Ext w w S0 (fP cx ⟨λ_ => none, λ_ => none, λ_ _ => none, λ_ => none⟩) := ⟨Nat.le_refl _, λ_ _ _ => rfl, λB _ h => ⟨.inl h, λ_ h => (by cases h), λ_ h => (by cases h), λ_ _ h => (by cases h)⟩⟩
    cases x with
    | c x => exact RD.ext hext hr
    | agg l =>
      obtain ⟨us, rfl, hsz, hc⟩ := hr
      refine ⟨us, rfl, by simpa using hsz, λi hi => ?_⟩
      simp only [List.length_map] at hi
      obtain ⟨u, hu, hr⟩ := hc i hi
      refine ⟨u, hu, ?_⟩
      have e : (l.map AC.d).getD i .undef = .d (l.getD i .undef) := by simp [List.getD_eq_getElem?_getD, hi]
      rw [e]; exact RD.ext hext hr
    | ptr l => exact Ptr.ext hext hr
    | clo f caps =>
      obtain ⟨us, rfl, hsz, hc⟩ := hr
      refine ⟨us, rfl, by simpa using hsz, λi hi => ?_⟩
      simp only [List.length_map] at hi
      obtain ⟨u, hu, hr⟩ := hc i hi
      refine ⟨u, hu, ?_⟩
      have e : (caps.map λl => Cap.dM l 0).getD i (.ref 0 0) = .dM (caps.getD i []) 0 := by simp [List.getD_eq_getElem?_getD, hi]
      rw [e]; exact Ptr.ext hext hr
  have hfin : Yt cx (bodyPostM Fence.wide 0 P fn λe w' => ∃ v, e = .returned v /\ Left w w' S0 sp xW v) (lu (fin' xW)) := by
    intro st m a w' R
    have key : fin' xW st -> LeavesInM Fence.wide 0 P fn a.tmps (λe w' => ∃ v, e = .returned v /\ Left w w' S0 sp xW v) a.defers .returning w' := by
      intro hf
      obtain ⟨Ds, hm⟩ := R.defers
      obtain ⟨w2, R2, -, -, h4⟩ := qF (P := P) R hm
      obtain ⟨v, h1, h2⟩ := awD xW cx st m _ w2 hpre R2 hf
      exact h4 ⟨v, h1, v, rfl, h2⟩
    exact ⟨key, key, λid h => h.elim⟩
  rw [<- hq] at hR
  exact h xW hpre (AR P none cx (bodyPostM Fence.wide 0 P fn λe w' => ∃ v, e = .returned v /\ Left w w' S0 sp xW v)) ⟨cx, _, none, rfl, rfl, hty, htb, xO cx rfl, hfin, (λ_ h => by cases h), rfl⟩ _ _ _ hR
end
end Go.dR
set_option linter.unusedVariables false
set_option linter.unusedSimpArgs false
namespace Go.dR
inductive CV where
 | slot (v:Option AV) | box (v:Option (List AC)) | lab (v:Option fE)
def St.get (st:St):wC->CV
 | .slot t=> .slot (lk st.sl t)
 | .box b=> .box (lk st.bx b)
 | .lab k=> .lab (lk st.lb k)
theorem YS {α:Type} (r:Rd α) (s s':St) (h:∀ c∈r.log s,s'.get c=s.get c):r.run s'=r.run s:=by
 induction r with
 | ret a=>rfl
 | slot t k ih=>
  have h0:lk s'.sl t=lk s.sl t:=by have:=h (.slot t) (by simp [Rd.log]); simpa [St.get] using this
  simp only [Rd.run,h0]
  exact ih _ (λc hc=>h c (by simp [Rd.log,hc]))
 | box b k ih=>
  have h0:lk s'.bx b=lk s.bx b:=by have:=h (.box b) (by simp [Rd.log]); simpa [St.get] using this
  simp only [Rd.run,h0]
  exact ih _ (λc hc=>h c (by simp [Rd.log,hc]))
 | lab l k ih=>
  have h0:lk s'.lb l=lk s.lb l:=by have:=h (.lab l) (by simp [Rd.log]); simpa [St.get] using this
  simp only [Rd.run,h0]
  exact ih _ (λc hc=>h c (by simp [Rd.log,hc]))
def Wr.comp:Wr->wC | .box b _=> .box b | .lab k _=> .lab k
def writes (dst:Option Nat) (o:Out):List wC:=(match dst with | some t=>[.slot t] | none=>[])++o.wr.map Wr.comp
theorem Gh (ws:List Wr):∀ (s s':St) (c:wC),(c∉ws.map Wr.comp->(bK s ws).get c=s.get c)/\(c∈ws.map Wr.comp->(bK s ws).get c=(bK s' ws).get c):=by
 induction ws with
 | nil=>intro s s' c; exact ⟨λ_=>rfl,λh=>by simp at h⟩
 | cons x r ih=>
  intro s s' c
  refine ⟨λh=> ?_,λh=> ?_⟩
  ·simp only [List.map_cons,List.mem_cons,not_or] at h
   simp only [bK]
   rw [(ih _ s' c).1 h.2]
   cases x with
   | box b l=>cases c with
    | box b'=>simp only [Wr.put,St.get]; rw [aS (by rintro rfl; exact h.1 rfl)]
    | _=>rfl
   | lab k l=>cases c with
    | lab k'=>simp only [Wr.put,St.get]; rw [aS (by rintro rfl; exact h.1 rfl)]
    | _=>rfl
  simp only [bK]
  by_cases hr:c∈r.map Wr.comp
  ·exact (ih _ _ c).2 hr
  rw [(ih _ s c).1 hr,(ih _ s c).1 hr]
  simp only [List.map_cons,List.mem_cons] at h
  obtain rfl:=h.resolve_right hr
  cases x<;>simp [Wr.put,Wr.comp,St.get,aX]
theorem H8 (dst:Option Nat) (o:Out) (s s':St) (c:wC):(c∉writes dst o->(s.done dst o).get c=s.get c)/\(c∈writes dst o->(s.done dst o).get c=(s'.done dst o).get c):=by
 cases dst with
 | none=>simpa only [writes,List.nil_append,St.done] using Gh o.wr s s' c
 | some t=>
  have hp:=Gh o.wr s s' c
  have hsl:∀ st:St,((bK st o.wr).slot t o.dst).get (.slot t)= .slot (some o.dst):=λst=>by simp [St.slot,St.get,aX]
  have hoth:∀ st:St,c≠ .slot t->((bK st o.wr).slot t o.dst).get c=(bK st o.wr).get c:=λst hc=>by
   cases c with
   | slot t'=>simp only [St.slot,St.get]; rw [aS (by rintro rfl; exact hc rfl)]
   | _=>rfl
  simp only [writes,List.singleton_append,List.mem_cons,not_or,St.done]
  refine ⟨λh=>by rw [hoth s h.1,hp.1 h.2],λh=> ?_⟩
  by_cases hc:c= .slot t
  ·subst hc; rw [hsl,hsl]
  rw [hoth s hc,hoth s' hc]; exact hp.2 (h.resolve_left hc)
section
variable (ty:iT) (tb:qj) (nt:Nat) (ops:List Oper) (st:St)
def dW:Nat->St
 | 0=>st
 | i+1=>match ops[i]? with
  | some o=>(fB ty tb nt (ops.map (·.dst)) o (dW i)).2
  | none=>dW i
def qA (i:Nat):List wC:=match ops[i]? with
 | some o=>(eX ty tb (ops.map (·.dst)) o).log (dW ty tb nt ops st i)
 | none=>[]
def fF (i:Nat):List wC:=match ops[i]? with
 | some o=>writes o.dst ((eX ty tb (ops.map (·.dst)) o).run (dW ty tb nt ops st i))
 | none=>[]
def Last (p:Nat->Prop) (s:St):Prop:=∀ c,
 (∃ j,p j/\c∈fF ty tb nt ops st j/\(∀ j',p j'->c∈fF ty tb nt ops st j'->j'<=j)/\s.get c=(dW ty tb nt ops st (j+1)).get c)\/
 ((∀ j,p j->c∉fF ty tb nt ops st j)/\s.get c=st.get c)
variable {ty tb nt ops st}
theorem Last.agree {p q:Nat->Prop} {s s':St} (h:Last ty tb nt ops st p s) (h':Last ty tb nt ops st q s') {c:wC} (hc:∀ j,c∈fF ty tb nt ops st j->(p j↔q j)):s.get c=s'.get c:=by
 rcases h c with ⟨j,h1,h2,h3,h4⟩ | ⟨h1,h2⟩<;>rcases h' c with ⟨k,g1,g2,g3,g4⟩ | ⟨g1,g2⟩
 ·have e1:=g3 j ((hc j h2).1 h1) h2
  have e2:=h3 k ((hc k g2).2 g1) g2
  obtain rfl:j=k:=by omega
  rw [h4,g4]
 ·exact absurd h2 (g1 j ((hc j h2).1 h1))
 ·exact absurd g2 (h1 k ((hc k g2).2 g1))
 rw [h2,g2]
theorem uG {i:Nat} (h:ops[i]? =none):dW ty tb nt ops st (i+1)=dW ty tb nt ops st i:=by simp [dW,h]
theorem Ae:∀ i,Last ty tb nt ops st (· <i) (dW ty tb nt ops st i)
 | 0=>λc=> .inr ⟨λj h=>absurd h (by omega),rfl⟩
 | i+1=>λc=>by
  cases ho:ops[i]? with
  | none=>
   have hw:fF ty tb nt ops st i=[]:=by simp [fF,ho]
   rcases Ae i c with ⟨j,h1,h2,h3,h4⟩ | ⟨h1,h2⟩
   ·refine .inl ⟨j,by omega,h2,λj' hj' hw'=> ?_,by rw [uG ho]; exact h4⟩
    by_cases e:j'=i
    ·subst e; rw [hw] at hw'; simp at hw'
    exact h3 j' (by omega) hw'
   ·refine .inr ⟨λj hj hw'=> ?_,by rw [uG ho]; exact h2⟩
    by_cases e:j=i
    ·subst e; rw [hw] at hw'; simp at hw'
    ·exact h1 j (by omega) hw'
  | some o=>
   have hs:dW ty tb nt ops st (i+1)=(dW ty tb nt ops st i).done o.dst ((eX ty tb (ops.map (·.dst)) o).run (dW ty tb nt ops st i)):=by simp [dW,ho,fB]
   by_cases hc:c∈fF ty tb nt ops st i
   ·exact .inl ⟨i,by omega,hc,λj' hj' _=>by omega,rfl⟩
   have hsame:(dW ty tb nt ops st (i+1)).get c=(dW ty tb nt ops st i).get c:=by
    rw [hs]; exact (H8 _ _ _ (dW ty tb nt ops st i) c).1 (by simpa [fF,ho] using hc)
   rcases Ae i c with ⟨j,h1,h2,h3,h4⟩ | ⟨h1,h2⟩
   ·refine .inl ⟨j,by omega,h2,λj' hj' hw'=> ?_,by rw [hsame]; exact h4⟩
    by_cases e:j'=i
    ·subst e; exact absurd hw' hc
    exact h3 j' (by omega) hw'
   refine .inr ⟨λj hj hw'=> ?_,by rw [hsame]; exact h2⟩
   by_cases e:j=i
   ·subst e; exact hc hw'
   exact h1 j (by omega) hw'
inductive Pre (ops:List Oper):Nat->Nat->Prop
 | edge {i j:Nat} {o:Oper} {e:Edge} (ho:ops[j]? =some o) (he:e∈o.after) (hb:Region.binds .any e=true) (hi:e.on=i):Pre ops i j
 | step {i j k:Nat} (h1:Pre ops i j) (h2:Pre ops j k):Pre ops i k
def Free (ty:iT) (tb:qj) (nt:Nat) (ops:List Oper) (st:St):Prop:=∀ i j c,i<j->
 (c∈fF ty tb nt ops st i/\(c∈qA ty tb nt ops st j\/c∈fF ty tb nt ops st j))\/(c∈qA ty tb nt ops st i/\c∈fF ty tb nt ops st j)->Pre ops i j
inductive Ord (ops:List Oper):List Nat->List Nat->Prop
 | nil (p):Ord ops p []
 | cons {p q:List Nat} {i:Nat} {o:Oper} (ho:ops[i]? =some o) (hi:i∉p) (he:∀ e∈o.after,Region.binds .any e=true->e.on∈p) (h:Ord ops (p++[i]) q):Ord ops p (i::q)
theorem agO (hfree:Free ty tb nt ops st) (aY:∀ i o,ops[i]? =some o->(fB ty tb nt (ops.map (·.dst)) o (dW ty tb nt ops st i)).1) {p q:List Nat} (h:Ord ops p q) :
 ∀ (s:St),(∀ i j,j∈p->Pre ops i j->i∈p)->Last ty tb nt ops st (· ∈p) s->(lg ty tb nt ops q s).1/\Last ty tb nt ops st (· ∈p++q) (lg ty tb nt ops q s).2:=by
 induction h with
 | nil p=>intro s _ hl; exact ⟨trivial,by simpa [lg] using hl⟩
 | @cons p q i o ho hi he h ih=>
  intro s hcl hl
  have hpre:∀ k,Pre ops k i->k∈p:=by
   intro k hk
   have:∀ {k i'},Pre ops k i'->i'=i->k∈p:=by
    intro k i' hk
    induction hk with
    | edge ho' he' hb' hi'=>intro e; subst e; rw [ho] at ho'; obtain rfl:=Option.some.inj ho'; subst hi'; exact he _ he' hb'
    | step h1 h2 ih1 ih2=>intro e; exact hcl _ _ (ih2 e) h1
   exact this hk rfl
  have hcl':∀ k j,j∈p++[i]->Pre ops k j->k∈p++[i]:=by
   intro k j hj hk
   rcases List.mem_append.1 hj with hj | hj
   ·exact List.mem_append.2 (.inl (hcl k j hj hk))
   obtain rfl:j=i:=by simpa using hj
   exact List.mem_append.2 (.inl (hpre k hk))
  have hread:∀ c∈qA ty tb nt ops st i,s.get c=(dW ty tb nt ops st i).get c:=by
   intro c hc
   refine hl.agree (Ae i) (λj hw=> ?_)
   rcases Nat.lt_trichotomy j i with hlt | rfl | hgt
   ·exact ⟨λ_=>hlt,λ_=>hpre j (hfree j i c hlt (.inl ⟨hw,.inl hc⟩))⟩
   ·exact ⟨λh=>absurd h hi,λh=>absurd h (by omega)⟩
   exact ⟨λh=>absurd (hcl i j h (hfree i j c hgt (.inr ⟨hc,hw⟩))) hi,λh=>absurd h (by omega)⟩
  have hrun:(eX ty tb (ops.map (·.dst)) o).run s=(eX ty tb (ops.map (·.dst)) o).run (dW ty tb nt ops st i):=
   YS _ _ _ (λc hc=>hread c (by simpa [qA,ho] using hc))
  have hW:fF ty tb nt ops st i=writes o.dst ((eX ty tb (ops.map (·.dst)) o).run (dW ty tb nt ops st i)):=by simp [fF,ho]
  have hstep:fB ty tb nt (ops.map (·.dst)) o s=((fB ty tb nt (ops.map (·.dst)) o (dW ty tb nt ops st i)).1,s.done o.dst ((eX ty tb (ops.map (·.dst)) o).run (dW ty tb nt ops st i))):=by
   simp [fB,hrun]
  have hl':Last ty tb nt ops st (· ∈p++[i]) (fB ty tb nt (ops.map (·.dst)) o s).2:=by
   intro c
   rw [hstep]
   by_cases hc:c∈fF ty tb nt ops st i
   ·refine .inl ⟨i,by simp,hc,λj hj hw=> ?_,?_⟩
    ·rcases List.mem_append.1 hj with hj | hj
     ·rcases Nat.lt_or_ge i j with hlt | hge
      ·exact absurd (hcl i j hj (hfree i j c hlt (.inl ⟨hc,.inr hw⟩))) hi
      exact hge
     have:j=i:=by simpa using hj
     omega
    have hs:dW ty tb nt ops st (i+1)=(dW ty tb nt ops st i).done o.dst ((eX ty tb (ops.map (·.dst)) o).run (dW ty tb nt ops st i)):=by simp [dW,ho,fB]
    rw [hs]
    exact (H8 _ _ s (dW ty tb nt ops st i) c).2 (by rw [<- hW]; exact hc)
   have hsame:(s.done o.dst ((eX ty tb (ops.map (·.dst)) o).run (dW ty tb nt ops st i))).get c=s.get c:=(H8 _ _ s s c).1 (by rw [<- hW]; exact hc)
   rcases hl c with ⟨j,h1,h2,h3,h4⟩ | ⟨h1,h2⟩
   ·refine .inl ⟨j,List.mem_append.2 (.inl h1),h2,λj' hj' hw'=> ?_,by rw [hsame]; exact h4⟩
    rcases List.mem_append.1 hj' with hj' | hj'
    ·exact h3 j' hj' hw'
    obtain rfl:j'=i:=by simpa using hj'
    exact absurd hw' hc
   refine .inr ⟨λj hj hw'=> ?_,by rw [hsame]; exact h2⟩
   rcases List.mem_append.1 hj with hj | hj
   ·exact h1 j hj hw'
   obtain rfl:j=i:=by simpa using hj
   exact hc hw'
  obtain ⟨g1,g2⟩:=ih _ hcl' hl'
  simp only [lg,ho]
  refine ⟨⟨by rw [hstep]; exact aY i o ho,g1⟩,by simpa using g2⟩
end
end Go.dR
set_option linter.unusedVariables false
set_option linter.unusedSimpArgs false
namespace Go.dR
theorem Gq : ∀ (n : Nat) (l : List Nat), l.Nodup -> (∀ x ∈ l, x < n) -> l.length <= n
  | 0, [], _, _ => Nat.le_refl _
  | 0, x :: _, _, h => absurd (h x (by simp)) (by omega)
  | n + 1, l, hn, h => by
    by_cases hm : n ∈ l
    · have h1 := Gq n (l.erase n) (hn.erase n) (λx hx => by
        rw [hn.mem_erase_iff] at hx
        have := h x hx.2
        omega)
      have := List.length_erase_of_mem hm
      omega
    have := Gq n l hn (λx hx => by
      have := h x hx
      rcases Nat.lt_or_ge x n with h' | h'
      · exact h'
      exact absurd (by have : x = n := by omega
                       exact this ▸ hx) hm)
    omega
def DC (md:Region.Mode) (ops:List Oper):List Nat->List Nat->Bool
 | p,[]=>(List.range ops.length).all λi=>p.contains i
 | p,i::r=>
  match ops[i]? with
  | some o=>(o.after.toList.all λe=> !Region.binds md e || p.contains e.on) && DC md ops (p++[i]) r
  | none=>false
def EF (md:Region.Mode) (ops:List Oper) (p:List Nat):List Nat->Option Nat
 | []=>none
 | i::r=>
  match ops[i]? with
  | some o=>if (o.after.toList.all λe=> !Region.binds md e || p.contains e.on)=true then some i else EF md ops p r
  | none=>EF md ops p r
def ajQ (md:Region.Mode) (ops:List Oper):Nat->List Nat->List Nat->List Nat
 | 0,p,_=>p
 | n+1,p,r=>
  match EF md ops p r with
  | some i=>ajQ md ops n (p++[i]) (r.filter λj=> !(j == i))
  | none=>p
def Goes (md:Region.Mode) (ops:List Oper):Prop:=∃ L,DC md ops [] L=true
section
variable {ops:Array Oper}
theorem QO {md:Region.Mode} {ops:List Oper} {p:List Nat} (ady:∀ i o,ops[i]? =some o->i∉p->∃ e∈o.after,Region.binds md e=true/\e.on∉p) :
 ∀ (L q:List Nat),DC md ops q L=true->(∀ y∈q,y∈p)->∀ i,i<ops.length->i∈p
 | [],q,h,hq,i,hi=>by
  simp only [DC,List.all_eq_true,List.mem_range] at h
  exact hq i (by simpa using h i hi)
 | x::r,q,h,hq,i,hi=>by
  simp only [DC] at h
  split at h
  ·rename_i o ho
   simp only [Bool.and_eq_true] at h
   refine QO ady r (q++[x]) h.2 (λy hy=> ?_) i hi
   rcases List.mem_append.1 hy with hy | hy
   ·exact hq y hy
   obtain rfl:y=x:=by simpa using hy
   refine Classical.byContradiction λhm=> ?_
   obtain ⟨e,he,hb,hn⟩:=ady y o ho hm
   have:=List.all_eq_true.1 h.1 e (Array.mem_toList_iff.2 he)
   simp only [hb,Bool.not_true,Bool.false_or,List.contains_iff_mem] at this
   exact hn (hq _ this)
  cases h
theorem aaH {md:Region.Mode} {e:Edge} (h:Region.binds .any e=true):Region.binds md e=true:=by
 unfold Region.binds at*
 split at h<;>first | (cases md<;>simp_all; done) | rfl
theorem adV {md:Region.Mode} (h:Goes md ops.toList):∀ (fuel t:Nat) (listed:Array Bool) (p:List Nat),listed.size=ops.size->(∀ j,j<ops.size->(listed.getD j true=true↔j∈p))->p.Nodup->(∀ j∈p,j<ops.size)->p.length+fuel=ops.size->
 Ord ops.toList p (Region.linearise.go md ops fuel t listed [])/\∀ i,i<ops.size->i∈p++Region.linearise.go md ops fuel t listed []
 | 0,t,listed,p,hsz,hl,hn,hb,hf=>by
  refine ⟨.nil _,λi hi=> ?_⟩
  simp only [Region.linearise.go,List.reverse_nil,List.append_nil]
  by_cases hm:i∈p
  ·exact hm
  ·have:=Gq ops.size (i::p) (List.nodup_cons.2 ⟨hm,hn⟩) (λx hx=>by
    rcases List.mem_cons.1 hx with rfl | hx
    ·exact hi
    exact hb x hx)
   simp only [List.length_cons] at this
   omega
 | fuel+1,t,listed,p,hsz,hl,hn,hb,hf=>by
  simp only [Region.linearise.go]
  generalize hrs:((List.range ops.size).filter λi=> !listed.getD i true && ((ops[i]?).map (·.after.all λe=> !Region.binds md e || listed.getD e.on false)).getD false)=rs
  have aDD:∀ j,listed.getD j false=true↔j∈p:=by
   intro j
   by_cases hj:j<ops.size
   ·rw [<- hl j hj]
    simp only [Array.getD_eq_getD_getElem?]
    rw [Array.getElem?_eq_getElem (by omega)]
    simp
   have:listed[j]? =none:=Array.getElem?_eq_none (by omega)
   simp only [Array.getD_eq_getD_getElem?,this]
   exact ⟨λh=>absurd h (by simp),λh=>absurd (hb j h) hj⟩
  have adz:∀ i,i∈rs↔(i<ops.size/\i∉p/\∃ o,ops[i]? =some o/\∀ e∈o.after,Region.binds md e=true->e.on∈p):=by
   intro i
   rw [<- hrs,List.mem_filter,List.mem_range]
   refine and_congr_right λhi=> ?_
   have ho:ops[i]? =some ops[i]:=Array.getElem?_eq_getElem hi
   simp only [Bool.and_eq_true,Bool.not_eq_true',ho,Option.map_some,Option.getD_some]
   have e1:listed.getD i true=false↔i∉p:=by rw [<- hl i hi]; simp
   rw [e1]
   refine and_congr_right λ_=> ?_
   have key:∀ e∈ops[i].after,((!Region.binds md e || listed.getD e.on false)=true↔(Region.binds md e=true->e.on∈p)):=by
    intro e _
    rw [Bool.or_eq_true,aDD]
    cases Region.binds md e<;>simp
   rw [Array.all_eq_true']
   exact ⟨λhx=>⟨_,rfl,λe he=>(key e he).1 (hx e he)⟩,λ⟨o,hoo,hx⟩ e he=>by
    obtain rfl:=Option.some.inj hoo
    exact (key e he).2 (hx e he)⟩
  cases hr:rs[t % rs.length]? with
  | none=>
   have hnil:rs=[]:=by
    cases rs with
    | nil=>rfl
    | cons x xs=>
     have hlt:t % (x::xs).length<(x::xs).length:=Nat.mod_lt _ (by simp)
     have:=List.getElem?_eq_none_iff.1 hr
     omega
   refine ⟨.nil _,λi hi=> ?_⟩
   simp only [List.reverse_nil,List.append_nil]
   obtain ⟨L,hL⟩:=h
   refine QO (md:=md) (p:=p) (λj o hj hm=> ?_) L [] hL (λy hy=>by cases hy) i (by simpa using hi)
   refine Classical.byContradiction λhno=> ?_
   have hjs:j<ops.size:=by
    have:=(List.getElem?_eq_some_iff.1 hj).1
    simpa using this
   have hin:j∈rs:=(adz j).2 ⟨hjs,hm,o,by rw [<- Array.getElem?_toList]; exact hj,λe he hbe=>Classical.byContradiction λhne=>hno ⟨e,he,hbe,hne⟩⟩
   rw [hnil] at hin
   cases hin
  | some i=>
   simp only []
   rw [linearise_go_acc,List.reverse_singleton,List.singleton_append]
   obtain ⟨hi,hm,o,ho,he⟩:=(adz i).1 (List.mem_of_getElem? hr)
   obtain ⟨g1,g2⟩:=adV h fuel (t / rs.length) (listed.setIfInBounds i true) (p++[i]) (by simpa using hsz) (λj hj=>by
    simp only [Array.getD_eq_getD_getElem?,Array.getElem?_setIfInBounds]
    split
    ·rename_i e; subst e; rw [if_pos (by omega)]; simp
    ·rename_i e
     have:=hl j hj
     rw [Array.getD_eq_getD_getElem?] at this
     rw [this]; simp [Ne.symm e])
    (by rw [List.nodup_append]; exact ⟨hn,by simp,λa ha b hb'=>by
     have:b=i:=by simpa using hb'
     subst this; rintro rfl; exact hm ha⟩)
    (λj hj=>by
     rcases List.mem_append.1 hj with hj | hj
     ·exact hb j hj
     have:j=i:=by simpa using hj
     omega) (by simp; omega)
   exact ⟨.cons (by rw [Array.getElem?_toList]; exact ho) hm (λe he' hbe=>he e he' (aaH hbe)) g1,λj hj=>by simpa using g2 j hj⟩
def Uh (ops:List Oper):Bool:=
 DC .any ops [] (List.range ops.length) && (!(ops.any λx=>x.after.toList.any λe=> !Region.binds .any e) || (DC .text ops [] (ajQ .text ops ops.length [] (List.range ops.length)) && DC .gc ops [] (ajQ .gc ops ops.length [] (List.range ops.length))))
theorem LZ (h:Uh ops.toList=true) (mixed:Bool) (t:Nat):Ord ops.toList [] (Region.schedule mixed ops t)/\∀ i,i<ops.size->i∈Region.schedule mixed ops t:=by
 simp only [Uh,Bool.and_eq_true] at h
 obtain ⟨h1,h2⟩:=h
 have gen:∀ (md:Region.Mode) (t:Nat),Goes md ops.toList->Ord ops.toList [] (Region.linearise md ops t)/\∀ i,i<ops.size->i∈Region.linearise md ops t:=by
  intro md t hg
  obtain ⟨g1,g2⟩:=adV hg ops.size t (Array.replicate ops.size false) [] (by simp) (λj hj=>by simp [Array.getD_eq_getD_getElem?,hj]) (by simp) (by simp) (by simp)
  refine ⟨g1,λi hi=> ?_⟩
  have:=g2 i hi
  rwa [List.nil_append] at this
 unfold Region.schedule
 split
 ·exact gen .any t ⟨_,h1⟩
 rename_i hne
 have hd:Region.departs ops=true:=by
  cases hd:Region.departs ops with
  | true=>rfl
  | false=>rw [hd] at hne; simp at hne
 have hd2:(ops.toList.any λx=>x.after.toList.any λe=> !Region.binds .any e)=true:=by
  simp only [Region.departs] at hd
  simpa using hd
 rw [hd2] at h2
 simp only [Bool.not_true,Bool.false_or,Bool.and_eq_true] at h2
 split
 ·exact gen .text _ ⟨_,h2.1⟩
 exact gen .gc _ ⟨_,h2.2⟩
end
section
variable {ty:iT} {tb:qj} {nt:Nat} {ops:List Oper} {st:St}
theorem Kw:∀ (r p:List Oper),ops=p++r->(iQ ty tb nt (ops.map (·.dst)) r (dW ty tb nt ops st p.length)).2=dW ty tb nt ops st ops.length/\
 ((iQ ty tb nt (ops.map (·.dst)) r (dW ty tb nt ops st p.length)).1->∀ i o,p.length<=i->ops[i]? =some o->(fB ty tb nt (ops.map (·.dst)) o (dW ty tb nt ops st i)).1)
 | [],p,h=>by
  have hl:ops.length=p.length:=by rw [h]; simp
  refine ⟨by simp only [iQ,hl],λ_ i o hi ho=> ?_⟩
  have:=(List.getElem?_eq_some_iff.1 ho).1
  omega
 | o::r,p,h=>by
  have ho:ops[p.length]? =some o:=by rw [h,List.getElem?_append_right (Nat.le_refl _)]; simp
  have hs:dW ty tb nt ops st ((p++[o]).length)=(fB ty tb nt (ops.map (·.dst)) o (dW ty tb nt ops st p.length)).2:=by simp [dW,ho]
  obtain ⟨g1,g2⟩:=Kw r (p++[o]) (by rw [h]; simp)
  rw [hs] at g1 g2
  refine ⟨by simp only [iQ]; exact g1,λhx i o' hi ho'=> ?_⟩
  simp only [iQ] at hx
  by_cases e:i=p.length
  ·subst e; rw [ho] at ho'; obtain rfl:=Option.some.inj ho'; exact hx.1
  exact g2 hx.2 i o' (by simp; omega) ho'
abbrev sN:=List wC×List wC
def foots (ty:iT) (tb:qj) (nt:Nat) (ds:List (Option Nat)):List Oper->St->List sN
 | [],_=>[]
 | o::r,st=>((eX ty tb ds o).log st,writes o.dst ((eX ty tb ds o).run st))::foots ty tb nt ds r (fB ty tb nt ds o st).2
theorem Kt:∀ (r p:List Oper) (i:Nat),ops=p++r->i<r.length->(foots ty tb nt (ops.map (·.dst)) r (dW ty tb nt ops st p.length))[i]? =some (qA ty tb nt ops st (p.length+i),fF ty tb nt ops st (p.length+i))
 | [],_,_,_,hi=>absurd hi (by simp)
 | o::r,p,i,h,hi=>by
  have ho:ops[p.length]? =some o:=by rw [h,List.getElem?_append_right (Nat.le_refl _)]; simp
  have hs:dW ty tb nt ops st ((p++[o]).length)=(fB ty tb nt (ops.map (·.dst)) o (dW ty tb nt ops st p.length)).2:=by simp [dW,ho]
  cases i with
  | zero=>simp [foots,qA,fF,ho]
  | succ i=>
   have:=Kt r (p++[o]) i (by rw [h]; simp) (by simpa using hi)
   rw [hs] at this
   simp only [foots,List.getElem?_cons_succ]
   rw [this]
   simp [Nat.add_assoc,Nat.add_comm 1 i]
def ceq:wC->wC->Bool
 | .slot a,.slot b=>a == b
 | .box a,.box b=>a == b
 | .lab a,.lab b=>a == b
 | _,_=>false
theorem aeB {a b:wC}:ceq a b=true↔a=b:=by cases a<;>cases b<;>simp [ceq]
def meets (l r:List wC):Bool:=l.any λa=>r.any λb=>ceq a b
theorem yF {l r:List wC} {c:wC} (h1:c∈l) (h2:c∈r):meets l r=true:=by
 simp only [meets,List.any_eq_true]
 exact ⟨c,h1,c,h2,aeB.2 rfl⟩
def clash (g f:sN):Bool:=meets g.2 f.1 || meets g.2 f.2 || meets g.1 f.2
def JX (cl:List Nat) (f:sN):Nat->List sN->Bool
 | _,[]=>true
 | k,g::r=>(cl.contains k || !clash g f) && JX cl f (k+1) r
def clo (prev:List (List Nat)) (es:List Edge):List Nat:=es.flatMap λe=>if Region.binds .any e=true then e.on::prev.getD e.on [] else []
def chk (prev:List (List Nat)) (pf:List sN):List Oper->List sN->Bool
 | [],[]=>true
 | o::r,f::fs=>JX (clo prev o.after.toList) f 0 pf && chk (prev++[clo prev o.after.toList]) (pf++[f]) r fs
 | _,_=>false
theorem Gn {cl : List Nat} {f : sN} : ∀ {l : List sN} {k : Nat}, JX cl f k l = true -> ∀ i g, l[i]? = some g -> k + i ∈ cl \/ clash g f = false
  | [], _, _, i, g, hg => by simp at hg
  | x :: r, k, h, i, g, hg => by
    simp only [JX, Bool.and_eq_true, Bool.or_eq_true, Bool.not_eq_true', List.contains_iff_mem] at h
    cases i with
    | zero => obtain rfl : x = g := by simpa using hg
              exact h.1
    | succ i =>
      rcases Gn h.2 i g (by simpa using hg) with h' | h'
      · exact .inl (by have e : k + (i + 1) = k + 1 + i := by omega
                       rw [e]; exact h')
      exact .inr h'
theorem Rq {fts:List sN}:∀ (r p:List Oper) (prev:List (List Nat)) (pf fs:List sN),ops=p++r->fts=pf++fs->prev.length=p.length->pf.length=p.length->
 (∀ (k:Nat) (cl:List Nat),prev[k]? =some cl->∀ x∈cl,Pre ops x k)->chk prev pf r fs=true->
 ∀ (j:Nat) (o:Oper),p.length<=j->ops[j]? =some o->∀ (i:Nat) (g f:sN),i<j->fts[i]? =some g->fts[j]? =some f->Pre ops i j\/clash g f=false
 | [],p,prev,pf,fs,hop,hft,hpl,hfl,hcl,hc,j,o,hj,ho=>by
  have:=(List.getElem?_eq_some_iff.1 ho).1
  rw [hop] at this
  simp at this; omega
 | x::r,p,prev,pf,[],hop,hft,hpl,hfl,hcl,hc,j,o,hj,ho=>by simp [chk] at hc
 | x::r,p,prev,pf,f0::fs,hop,hft,hpl,hfl,hcl,hc,j,o,hj,ho=>by
  have hx:ops[p.length]? =some x:=by rw [hop,List.getElem?_append_right (Nat.le_refl _)]; simp
  simp only [chk,Bool.and_eq_true] at hc
  obtain ⟨c2,c3⟩:=hc
  have awE:∀ y∈clo prev x.after.toList,Pre ops y p.length:=by
   intro y hy
   simp only [clo,List.mem_flatMap] at hy
   obtain ⟨e,he,hy⟩:=hy
   have he':=Array.mem_toList_iff.1 he
   split at hy
   case isFalse=>cases hy
   rename_i hb
   rcases List.mem_cons.1 hy with rfl | hy
   ·exact .edge hx he' hb rfl
   cases hp:prev[e.on]? with
   | none=>rw [List.getD_eq_getElem?_getD,hp] at hy; simp at hy
   | some cl=>
    rw [List.getD_eq_getElem?_getD,hp] at hy
    exact .step (hcl _ _ hp y hy) (.edge hx he' hb rfl)
  by_cases e:j=p.length
  ·subst e
   rw [hx] at ho; obtain rfl:=Option.some.inj ho
   intro i g f hi hg hf
   rw [hft,List.getElem?_append_left (by omega)] at hg
   rw [hft, <- hfl,List.getElem?_append_right (Nat.le_refl _)] at hf
   obtain rfl:f0=f:=by simpa using hf
   rcases Gn c2 i g hg with h | h
   ·rw [Nat.zero_add] at h; exact .inl (awE i h)
   exact .inr h
  refine Rq r (p++[x]) _ (pf++[f0]) fs (by rw [hop]; simp) (by rw [hft]; simp) (by simp [hpl]) (by simp [hfl]) (λk cl hk=> ?_) c3 j o (by simp; omega) ho
  rcases Nat.lt_or_ge k prev.length with h | h
  ·rw [List.getElem?_append_left h] at hk; exact hcl k cl hk
  rw [List.getElem?_append_right h] at hk
  have hk0:k - prev.length=0:=by
   have:=(List.getElem?_eq_some_iff.1 hk).1
   simpa using this
  rw [hk0] at hk
  obtain rfl:clo prev x.after.toList=cl:=by simpa using hk
  have:k=p.length:=by omega
  rw [this]; exact awE
end
def drawn (ty:iT) (tb:qj) (nt:Nat) (ops:List Oper) (st:St):Prop:=
 Uh ops=true/\chk [] [] ops (foots ty tb nt (ops.map (·.dst)) ops st)=true
theorem bD {P:Program} {ty:iT} {tb:qj} {n:Nat} (hty:iP P ty) (htb:fM P tb) (cx:Cx) (hn:cx.nt=n):wB P ty tb cx (drawn ty tb n):=by
 subst hn
 intro ρ id ops st Q m a w R aY hd hQ
 obtain ⟨hord,hd⟩:=hd
 have hspec:=Rq (ops:=ops.toList) (fts:=foots ty tb cx.nt (ops.toList.map (·.dst)) ops.toList st) ops.toList [] [] [] (foots ty tb cx.nt (ops.toList.map λo=>o.dst) ops.toList st) rfl rfl rfl rfl (λk cl h=>by simp at h) hd
 have hfg:=λi (hi:i<ops.toList.length)=>Kt (ty:=ty) (tb:=tb) (nt:=cx.nt) (ops:=ops.toList) (st:=st) ops.toList [] i rfl hi
 have hlt:∀ j c,c∈fF ty tb cx.nt ops.toList st j->j<ops.toList.length:=by
  intro j c hc
  cases ho:ops.toList[j]? with
  | none=>simp [fF,ho] at hc
  | some o=>exact (List.getElem?_eq_some_iff.1 ho).1
 have aDC:∀ j c,c∈qA ty tb cx.nt ops.toList st j->j<ops.toList.length:=by
  intro j c hc
  cases ho:ops.toList[j]? with
  | none=>simp [qA,ho] at hc
  | some o=>exact (List.getElem?_eq_some_iff.1 ho).1
 have hfree:Free ty tb cx.nt ops.toList st:=by
  intro i j c hij hcl
  have hj:j<ops.toList.length:=by
   rcases hcl with ⟨_,h | h⟩ | ⟨_,h⟩
   ·exact aDC j c h
   ·exact hlt j c h
   exact hlt j c h
  have hg:=hfg i (by omega)
  have hf:=hfg j hj
  simp only [List.length_nil,Nat.zero_add] at hg hf
  rcases hspec j _ (Nat.zero_le _) (List.getElem?_eq_getElem hj) i _ _ hij hg hf with h | h
  ·exact h
  simp only [clash,Bool.or_eq_false_iff] at h
  rcases hcl with ⟨h1,h2 | h2⟩ | ⟨h1,h2⟩
  ·rw [yF h1 h2] at h; simp at h
  ·rw [yF h1 h2] at h; simp at h
  rw [yF h1 h2] at h; simp at h
 obtain ⟨e1,e2⟩:=Kw (ty:=ty) (tb:=tb) (nt:=cx.nt) (ops:=ops.toList) (st:=st) ops.toList [] rfl
 have e2':=e2 aY
 simp only [List.length_nil,dW] at e1
 refine wpIn_region_draw λt=> ?_
 obtain ⟨o1,o2⟩:=LZ hord (P.follows .mixedOrders) t
 have hl0:Last ty tb cx.nt ops.toList st (· ∈([]:List Nat)) st:=λc=> .inr ⟨λj h=>by simp at h,rfl⟩
 obtain ⟨g1,g2⟩:=agO hfree (λi o ho=>e2' i o (Nat.zero_le _) ho) o1 st (λi j h=>by simp at h) hl0
 refine Bv hty htb _ st m a _ (R.drawn _) g1 (λm' a' w' R'=>hQ m' a' w' ?_)
 have hall:∀ c,(lg ty tb cx.nt ops.toList (Region.schedule (P.follows .mixedOrders) ops t) st).2.get c=(dW ty tb cx.nt ops.toList st ops.toList.length).get c:=by
  intro c
  refine g2.agree (Ae _) (λj hw=> ?_)
  have:=hlt j c hw
  exact ⟨λ_=>this,λ_=>by simpa using o2 j (by simpa using this)⟩
 rw [e1]
 refine Rel.alike R' (λk=> ?_) (λk=> ?_) (λk=> ?_)
 ·have:=hall (.slot k); simp only [St.get,CV.slot.injEq] at this; exact this.symm
 ·have:=hall (.box k); simp only [St.get,CV.box.injEq] at this; exact this.symm
 have:=hall (.lab k); simp only [St.get,CV.lab.injEq] at this; exact this.symm
end Go.dR
set_option linter.unusedVariables false
set_option linter.unusedSimpArgs false
namespace Go.dR
theorem lF {k:Nat} {f g:Option fE->Rd Out} (h0:f none=g none) (h1:f (some .dead)=g (some .dead)) (h2:∀ x,f (some (.owned x))=g (some (.owned x))) (h3:∀ x,f (some (.shared x))=g (some (.shared x))) (h4:∀ x,f (some (.deep x))=g (some (.deep x)):=by intros; rfl) (h5:∀ x,f (some (.set x))=g (some (.set x)):=by intros; rfl):(Rd.lab k f)= .lab k g:=by
 congr 1; funext x; rcases x with _ | x
 ·exact h0
 cases x
 ·exact h1
 ·exact h2 _
 ·exact h3 _
 ·exact h4 _
 exact h5 _
theorem AL {k:Nat} {f g:Option (List AC)->Rd Out} (h0:f none=g none) (h1:∀ x,f (some x)=g (some x)):(Rd.box k f)= .box k g:=by
 congr 1; funext x; rcases x with _ | x
 ·exact h0
 exact h1 _
def Qq {α:Type} (f:List α->Rd Out) (v:α) (vs:List α):Rd Out:=f (v::vs)
def aiP (r:List Operand) (f:List AV->Rd Out) (v:AV):Rd Out:=ql r (Qq f v)
theorem acD (f:List AV->Rd Out):ql [] f=f []:=(rfl)
theorem Zv (x:Operand) (r:List Operand) (f:List AV->Rd Out):ql (x::r) f=eG x (aiP r f):=(rfl)
def kD (f:D->Rd Out):Option fE->Rd Out
 | some (.owned x)=>f x
 | some (.shared x)=>f x
 | _=>bad
theorem anL (x:D) (f:D->Rd Out):Jz (.d x) f=f x:=(rfl)
theorem aa0 (l:List D) (f:D->Rd Out):Jz (.dM l 0) f=f (.pt true l):=(rfl)
theorem afE (g:Nat) (f:D->Rd Out):Jz (.clo g []) f=f (.fn g):=(rfl)
theorem aa1 (f:D->Rd Out):Jz .dF f=f (.sl 0 0 λ_=>[]):=(rfl)
theorem VR (k:Nat) (f:D->Rd Out):Jz (.own k) f= .lab k (kD f):=by
 exact lF rfl rfl (λ_=>rfl) (λ_=>rfl)
def kDs (r:List AC) (f:List D->Rd Out) (d:D):Rd Out:=qM r (Qq f d)
theorem aaZ (f:List D->Rd Out):qM [] f=f []:=(rfl)
theorem YA (x:AC) (r:List AC) (f:List D->Rd Out):qM (x::r) f=Jz x (kDs r f):=(rfl)
def av2 (f:List D->Rd Out):Option (List AC)->Rd Out
 | some cs=>qM cs f
 | none=>bad
theorem aau (b:Nat) (f:List D->Rd Out):Ic (.ref b 0) f= .box b (av2 f):=by
 exact AL rfl (λ_=>rfl)
theorem Vw (l:List D) (f:List D->Rd Out):Ic (.dM l 0) f=f l:=(rfl)
def aiT (r:List Cap) (f:List (List D)->Rd Out) (d:List D):Rd Out:=lM r (Qq f d)
theorem Vu (f:List (List D)->Rd Out):lM [] f=f []:=(rfl)
theorem Rt (x:Cap) (r:List Cap) (f:List (List D)->Rd Out):lM (x::r) f=Ic x (aiT r f):=(rfl)
def XI (f:Arg->Rd Out) (d:D):Rd Out:=f (.c d)
def aiY (f:Arg->Rd Out) (d:List D):Rd Out:=f (.agg d)
def aiX (g:Nat) (f:Arg->Rd Out) (ds:List (List D)):Rd Out:=f (.clo g ds)
theorem YE (g:Nat) (caps:List Cap) (f:Arg->Rd Out):toArg (.u (.c (.clo g caps))) f=lM caps (aiX g f):=(rfl)
theorem afF (x:D) (f:Arg->Rd Out):toArg (.u (.c (.d x))) f=f (.c x):=(rfl)
theorem SX (l:List D) (f:Arg->Rd Out):toArg (.u (.c (.dM l 0))) f=f (.c (.pt true l)):=(rfl)
def av7 (f:D->Rd Out) (s n:Nat) (ds:List D):Rd Out:=f (D.ofList s (chunks s ds n))
theorem amj (off n s:Nat) (cs:List AC) (f:D->Rd Out):aeV off n s cs f=if off+n*s<=cs.length/\0<s then qM ((cs.drop off).take (n*s)) (av7 f s n) else bad:=(rfl)
def av4 (off n s:Nat) (f:Arg->Rd Out):Option (List AC)->Rd Out
 | some cs=>aeV off n s cs (XI f)
 | none=>bad
theorem YF (b off n s:Nat) (f:Arg->Rd Out):toArg (.u (.c (.xg b off n s))) f= .box b (av4 off n s f):=AL rfl (λ_=>rfl)
theorem SY (f:Arg->Rd Out):toArg (.u (.c .dF)) f=f (.c (.sl 0 0 λ_=>[])):=(rfl)
theorem YD (k:Nat) (f:Arg->Rd Out):toArg (.u (.c (.own k))) f= .lab k (kD (XI f)):=by
 show Jz (.own k) (λd=>f (.c d))=_
 rw [VR]; rfl
theorem YG (l:List AC) (f:Arg->Rd Out):toArg (.u (.agg l)) f=qM l (aiY f):=(rfl)
def aiW (r:List AV) (f:List Arg->Rd Out) (a:Arg):Rd Out:=mF r (Qq f a)
theorem SV (f:List Arg->Rd Out):mF [] f=f []:=(rfl)
theorem O1 (x:AV) (r:List AV) (f:List Arg->Rd Out):mF (x::r) f=toArg x (aiW r f):=(rfl)
def XE (n nm:Nat) (f:Nat->Rd Out):Option fE->Rd Out | none=>f nm | some _=>qC n (nm+100000) f
theorem JY (n nm:Nat) (f:Nat->Rd Out):qC (n+1) nm f= .lab nm (XE n nm f):=by
 exact lF rfl rfl (λ_=>rfl) (λ_=>rfl)
theorem acK (nm:Nat) (f:Nat->Rd Out):fU nm f= .lab nm (XE 7 nm f):=JY 7 nm f
def Nr (n nm:Nat) (f:Nat->Rd Out):Option (List AC)->Rd Out | none=>f nm | some _=>qE n (nm+100000) f
theorem JZ (n nm:Nat) (f:Nat->Rd Out):qE (n+1) nm f= .box nm (Nr n nm f):=by
 exact AL rfl (λx=>rfl)
theorem acL (nm:Nat) (f:Nat->Rd Out):jU nm f= .box nm (Nr 7 nm f):=JZ 7 nm f
def ala (k:Nat) (x:D) (f:List Wr->Rd Out) (ws:List Wr):Rd Out:=f (.lab k (.shared x)::ws)
def kSh (k:Nat) (r:List AC) (f:List Wr->Rd Out):Option fE->Rd Out
 | some (.owned x)=>bJ r (ala k x f)
 | some (.shared _)=>bJ r f
 | _=>bad
theorem IZ (f:List Wr->Rd Out):bJ [] f=f []:=(rfl)
theorem IY (k:Nat) (r:List AC) (f:List Wr->Rd Out):bJ (.own k::r) f= .lab k (kSh k r f):=by
 exact lF rfl rfl (λ_=>rfl) (λ_=>rfl)
theorem Pg (x:D) (r:List AC) (f:List Wr->Rd Out):bJ (.d x::r) f=bJ r f:=(rfl)
theorem FM (r:List AC) (f:List Wr->Rd Out):bJ (.dF::r) f=bJ r f:=(rfl)
theorem FK (l:List D) (off:Nat) (r:List AC) (f:List Wr->Rd Out):bJ (.dM l off::r) f=bJ r f:=(rfl)
theorem IX (b off:Nat) (r:List AC) (f:List Wr->Rd Out):bJ (.ref b off::r) f=bJ r f:=(rfl)
theorem I4 (g:Nat) (c:List Cap) (r:List AC) (f:List Wr->Rd Out):bJ (.clo g c::r) f=bJ r f:=(rfl)
def ac8 (p:Prop) (x:D) (ws:List Wr) (k:Nat):Rd Out:= .ret ⟨p,.c (.own k),ws++[.lab k (.owned x)]⟩
theorem Uk (nm:Nat) (p:Prop) (x:D) (ws:List Wr):xK true nm p x ws=fU nm (ac8 p x ws):=(rfl)
theorem Qe (nm:Nat) (p:Prop) (x:D):xK false nm p x []= .ret ⟨p,.c (.d x),[]⟩:=(rfl)
def adf (i:TI) (off:Nat):Option (List AC)->Rd Out
 | some cs=>iF i off cs
 | none=>bad
def Uw (i:TI) (j off:Nat):Option fE->Rd Out
 | some (.owned x)=>iF i off ((x.nth j).map .d)
 | some (.shared x)=>iF i off ((x.nth j).map .d)
 | _=>bad
def adg (i:TI):AV->Rd Out
 | .u (.c (.ref b off))=> .box b (adf i off)
 | .u (.c (.iE k j off))=> .lab k (Uw i j off)
 | .u (.c (.dM l off))=>iF i off (l.map .d)
 | .u (.c (.d (.pt b l)))=>J4 i b l
 | .u (.c (.glob g off))=>XA i g off
 | _=>bad
def adh:Option TI->AV->Rd Out
 | some i,a=>adg i a
 | none,_=>bad
theorem ad9 (ty:iT) (t:Nat) (a:AV):iZ ty t a=adh (ty t) a:=by
 unfold iZ adh
 cases ty t with
 | none=>cases a<;>rfl
 | some i=>
  cases a with
  | u a=>cases a with
   | c a=>cases a<;>first | rfl | exact AL rfl (λ_=>rfl) | exact lF rfl rfl (λ_=>rfl) (λ_=>rfl) | (rename_i x; cases x<;>rfl)
   | agg l=>rfl
  | _=>rfl
def avm (i:TI) (b off:Nat) (v:AU):Option (List AC)->Rd Out
 | some cs=> .ret ⟨v.cells.length=i.size/\v.solid=true/\off+v.cells.length<=cs.length,default,[.box b (splice cs off v.cells)]⟩
 | none=>bad
def aiF (i:TI) (k j off:Nat) (v:AU) (x:D):Option (List D)->Rd Out
 | some ds=> .ret ⟨v.cells.length=i.size/\v.solid=true/\off+v.cells.length<=x.stride,default,[.lab k (.owned (x.setAt j off ds))]⟩
 | none=>bad
def ak' (i:TI) (k j off:Nat) (v:AU):Option fE->Rd Out
 | some (.owned x)=>aiF i k j off v x (oM v.cells)
 | _=>bad
def avn (i:TI) (v:AU):AV->Rd Out
 | .u (.c (.ref b off))=> .box b (avm i b off v)
 | .u (.c (.iE k j off))=> .lab k (ak' i k j off v)
 | _=>bad
def kSt (a:AV):Option TI->AV->Rd Out
 | some i,.u v=>avn i v a
 | _,_=>bad
theorem ZW (ty:iT) (t:Nat) (a v:AV):lG ty t a v=kSt a (ty t) v:=by
 unfold lG kSt
 cases ty t with
 | none=>cases v<;>rfl
 | some i=>
  cases v with
  | u v=>cases a with
   | u a=>cases a with
    | c a=>cases a<;>first | rfl | exact AL rfl (λ_=>rfl) | (refine lF rfl rfl (λx=> ?_) (λ_=>rfl); simp only [ak']; cases oM v.cells<;>rfl)
    | agg l=>rfl
   | _=>rfl
  | _=>rfl
def alu (k i o:Nat):Option fE->Rd Out
 | some (.owned _)=>rP (.c (.iE k i o))
 | some (.shared _)=>rP (.c (.iE k i o))
 | _=>bad
def avZ (o:Nat):AV->Rd Out
 | .u (.c (.ref b off))=>rP (.c (.ref b (off+o)))
 | .u (.c (.iE k i off))=> .lab k (alu k i (off+o))
 | .u (.c (.dM l off))=>rP (.c (.dM l (off+o)))
 | .u (.c (.d (.pt b l)))=> .ret ⟨b=true,.c (.dM l o),[]⟩
 | _=>bad
def kFa (a:AV):Option (Nat×TI)->Rd Out
 | some p=>avZ p.1 a
 | none=>bad
theorem Jr (ty:iT) (s f:Nat) (a:AV):ku ty s f a=kFa a (nT ty s f):=by
 unfold ku kFa
 cases nT ty s f with
 | none=>cases a<;>rfl
 | some p=>
  cases a with
  | u a=>cases a with
   | c a=>cases a<;>first | rfl | exact lF rfl rfl (λ_=>rfl) (λ_=>rfl) | (rename_i x; cases x<;>rfl)
   | agg l=>rfl
  | _=>rfl
def kIx (k:Nat) (i:Int) (e:TI):Option fE->Rd Out
 | some (.owned x)=> .ret ⟨(0<=i/\i<x.len)/\x.stride=e.size,.c (.iE k i.toNat 0),[]⟩
 | some (.shared x)=> .ret ⟨(0<=i/\i<x.len)/\x.stride=e.size,.c (.dM (x.nth i.toNat) 0),[]⟩
 | some (.deep x)=> .ret ⟨(0<=i/\i<x.len)/\x.stride=e.size,.c (.iE k i.toNat 0),[]⟩
 | _=>bad
theorem Ed (ty:iT) (t k:Nat) (kd:IntKind) (i:Int):iH ty t (.u (.c (.own k))) (.u (.c (.d (.int kd i))))=
 match ty t,kF ty t with
 | some { desc:= .slice _,.. },some e=> .lab k (kIx k i e)
 | _,_=>bad:=by
 unfold iH
 cases ty t with
 | none=>rfl
 | some ti=>
  cases kF ty t with
  | none=>obtain ⟨_,_,_,_,d,_⟩:=ti; cases d<;>rfl
  | some e=>
   obtain ⟨_,_,_,_,d,_⟩:=ti
   cases d<;>first | rfl | exact lF rfl rfl (λ_=>rfl) (λ_=>rfl)
def aln (k j o:Nat) (p:Prop):Option fE->Rd Out
 | some (.owned _)=> .ret ⟨p,.c (.iE k j o),[]⟩
 | some (.shared _)=> .ret ⟨p,.c (.iE k j o),[]⟩
 | _=>bad
theorem BN (ty:iT) (t k j off:Nat) (kd:IntKind) (i:Int):iH ty t (.u (.c (.iE k j off))) (.u (.c (.d (.int kd i))))=
 match ty t,kF ty t with
 | some { desc:= .array n _,.. },some e=> .lab k (aln k j (off+i.toNat*e.size) (0<=i/\i<n))
 | _,_=>bad:=by
 unfold iH
 cases ty t with
 | none=>rfl
 | some ti=>
  cases kF ty t with
  | none=>obtain ⟨_,_,_,_,d,_⟩:=ti; cases d<;>rfl
  | some e=>
   obtain ⟨_,_,_,_,d,_⟩:=ti
   cases d<;>first | rfl | exact lF rfl rfl (λ_=>rfl) (λ_=>rfl)
theorem alm (k j o:Nat) (p:Prop) (x:D):aln k j o p (some (.owned x))= .ret ⟨p,.c (.iE k j o),[]⟩:=(rfl)
theorem alk (k j o:Nat) (p:Prop) (x:D):aln k j o p (some (.shared x))= .ret ⟨p,.c (.iE k j o),[]⟩:=(rfl)
theorem avV (k:Nat) (i:Int) (e:TI) (x:D):kIx k i e (some (.owned x))= .ret ⟨(0<=i/\i<x.len)/\x.stride=e.size,.c (.iE k i.toNat 0),[]⟩:=(rfl)
theorem avU (k:Nat) (i:Int) (e:TI) (x:D):kIx k i e (some (.shared x))= .ret ⟨(0<=i/\i<x.len)/\x.stride=e.size,.c (.dM (x.nth i.toNat) 0),[]⟩:=(rfl)
theorem avW (k:Nat) (i:Int) (e:TI) (x:D):kIx k i e (some (.deep x))= .ret ⟨(0<=i/\i<x.len)/\x.stride=e.size,.c (.iE k i.toNat 0),[]⟩:=(rfl)
def av8 (lin:Bool) (nm len:Nat) (i:TI) (ws:List Wr) (ds:List D):Rd Out:=
 xK lin nm (len*i.size<=16777216/\i.zero.length=i.size/\0<i.size) (D.ofList i.size (chunks i.size ds len)) ws
def av9 (lin:Bool) (nm len:Nat) (i:TI) (cs:List AC) (ws:List Wr):Rd Out:=uy cs (av8 lin nm len i ws)
theorem SN (f:List D->Rd Out):uy [.dF] f=f [.nl]:=(rfl)
theorem YC (f:List D->Rd Out):uy [] f=qM [] f:=(rfl)
theorem afD (x:D) (f:List D->Rd Out):uy [.d x] f=qM [.d x] f:=(rfl)
theorem YB (k:Nat) (f:List D->Rd Out):uy [.own k] f=qM [.own k] f:=(rfl)
theorem SL (l:List D) (o:Nat) (f:List D->Rd Out):uy [.dM l o] f=qM [.dM l o] f:=(rfl)
theorem SQ (x y:AC) (r:List AC) (f:List D->Rd Out):uy (x::y::r) f=qM (x::y::r) f:=by cases x<;>rfl
def av5 (len:Nat) (i:TI) (cs:List AC) (b:Nat):Rd Out:= .ret ⟨(len*i.size<=16777216/\len*i.size≠0)/\cs.all AC.solid=true,.c (.xg b 0 len i.size),[.box b cs]⟩
def av6 (lin:Bool) (nm len:Nat) (i:TI) (cs:List AC):Bool->Bool->Rd Out
 | false,_=>bJ cs (av9 lin nm len i cs)
 | true,true=>jU nm (av5 len i cs)
 | true,false=>bad
theorem UM:jW []=false:=(rfl)
theorem UK (b o:Nat) (r:List AC):jW (.ref b o::r)=true:=(rfl)
theorem adI (x:D) (r:List AC):jW (.d x::r)=jW r:=(rfl)
theorem QD (r:List AC):jW (.dF::r)=jW r:=(rfl)
theorem UL (k:Nat) (r:List AC):jW (.own k::r)=jW r:=(rfl)
theorem QC (l:List D) (o:Nat) (r:List AC):jW (.dM l o::r)=jW r:=(rfl)
theorem UN (f:Nat) (c:List Cap) (r:List AC):jW (.clo f c::r)=jW r:=(rfl)
def kBs (lin:Bool) (nm len:Nat) (i:TI):Option (List AC)->Rd Out
 | some cs=>av6 lin nm len i cs (jW cs) lin
 | none=>bad
theorem Hu (ty:iT) (lin:Bool) (nm t len:Nat) (parts:List (Nat×AV)):jD ty lin nm t len parts=
 match ty t with
 | some { desc:= .slice e,.. } =>
  match ty e with
  | some i=>kBs lin nm len i (iY (λj=>some (j*i.size,i.size)) (zO (i.zero.map Dn) len) parts)
  | none=>bad
 | _=>bad:=by
 unfold jD
 cases ty t with
 | none=>rfl
 | some ti=>
  obtain ⟨_,_,_,_,d,_⟩:=ti
  cases d<;>first | rfl | skip
  rename_i e
  simp only
  cases ty e with
  | none=>rfl
  | some i=>
   simp only [kBs]
   cases iY (λj=>some (j*i.size,i.size)) (zO (i.zero.map Dn) len) parts with
   | none=>rfl
   | some cs=>simp only; cases jW cs<;>cases lin<;>rfl
def avq (e:TI) (lo hi:Option AV) (max:Bool) (ws:List Wr) (d:D):Rd Out:=Kz e lo hi max d ws
def avr (e:TI) (x:AC) (lo hi:Option AV) (max:Bool) (ws:List Wr):Rd Out:=Jz x (avq e lo hi max ws)
def avp (e:TI) (n:Nat) (lo hi:Option AV) (max:Bool):AC->Rd Out
 | .ref b off=>
  match bound lo 0,bound hi n with
  | some l,some h=> .ret ⟨max=false/\(0<=l/\l<=h/\h<=n)/\l<n,.c (.xg b (off+l.toNat*e.size) (h.toNat - l.toNat) e.size),[]⟩
  | _,_=>bad
 | _=>bad
def avo (lo hi:Option AV) (max:Bool):AC->Rd Out
 | .d (.str s)=>
  match bound lo 0,bound hi s.size with
  | some l,some h=> .ret ⟨max=false/\0<=l/\l<=h/\h<=s.size,.c (.d (.str (s.extract l.toNat h.toNat))),[]⟩
  | _,_=>bad
 | _=>bad
theorem ZX (ty:iT) (t:Nat) (x:AC) (lo hi:Option AV) (max:Bool):kP ty t (.u (.c x)) lo hi max=
 match ty t,kF ty t with
 | some { desc:= .slice _,.. },some e=>bJ [x] (avr e x lo hi max)
 | some { desc:= .array n _,.. },some e=>avp e n lo hi max x
 | some { desc:= .string,.. },_=>avo lo hi max x
 | _,_=>bad:=by
 unfold kP
 cases ty t with
 | none=>rfl
 | some ti=>
  obtain ⟨_,_,_,_,d,_⟩:=ti
  cases kF ty t with
  | none=>cases d<;>first | rfl | (cases x<;>first | rfl | (rename_i y; cases y<;>rfl))
  | some e=>cases d<;>first | rfl | (cases x<;>first | rfl | (rename_i y; cases y<;>rfl))
def avS (d:D):Rd Out:= .ret ⟨d.cu=true,.c (.d (.int .i64 d.len)),[]⟩
def XF:Option fE->Rd Out
 | some (.owned x)=> .ret ⟨x.cu=true,.c (.d (.int .i64 x.len)),[]⟩
 | some (.shared x)=> .ret ⟨x.cu=true,.c (.d (.int .i64 x.len)),[]⟩
 | some (.deep x)=> .ret ⟨x.cu=true,.c (.d (.int .i64 x.len)),[]⟩
 | _=>bad
theorem ag7 (x:D):XF (some (.owned x))= .ret ⟨x.cu=true,.c (.d (.int .i64 x.len)),[]⟩:=(rfl)
theorem ag6 (x:D):XF (some (.shared x))= .ret ⟨x.cu=true,.c (.d (.int .i64 x.len)),[]⟩:=(rfl)
theorem ag8 (x:D):XF (some (.deep x))= .ret ⟨x.cu=true,.c (.d (.int .i64 x.len)),[]⟩:=(rfl)
def adk (x:AV):Option TI->Rd Out
 | some { desc:= .slice _,.. } =>match x with
  | .u (.c (.xg _ _ n _))=>rP (.c (.d (.int .i64 n)))
  | .u (.c (.own k))=> .lab k XF
  | .u (.c x)=>Jz x avS
  | _=>bad
 | some { desc:= .string,.. } =>match x with
  | .u (.c (.d (.str s)))=>rP (.c (.d (.int .i64 s.size)))
  | _=>bad
 | _=>bad
theorem ahs (ty:iT) (t:Nat) (x:AV):Hq ty t x=adk x (ty t):=by
 unfold Hq adk
 cases ty t with
 | none=>rfl
 | some ti=>
  obtain ⟨_,_,_,_,d,_⟩:=ti
  cases x with
  | u x=>cases x with
   | c x=>cases d<;>first | rfl | (cases x<;>first | rfl | (rename_i y; cases y<;>rfl))
   | agg l=>cases d<;>rfl
  | _=>cases d<;>rfl
def ai1 (e:TI) (d:D) (k:Nat):Rd Out:= .ret ⟨(d.cu=true/\(d.len≠0->d.stride=e.size))/\d.len*e.bytes<=140737488355328/\d.len<=9223372036854775807,.c (.own k),
 [.lab k (.owned (D.cat (.sl e.size 0 λ_=>[]) d))]⟩
def ado (e:TI) (j:Nat) (y:AC) (z d:D) (k:Nat):Rd Out:=
 .ret ⟨((d.cu=true/\(d.len≠0->d.stride=e.size))/\z.stride=e.size/\MW y j)/\(z.len+d.len)*e.bytes<=140737488355328/\z.len+d.len<=9223372036854775807,
  .c (.own k),[.lab j .dead,.lab k (.owned (D.cat z d))]⟩
def adn (e:TI) (t j:Nat) (z d:D) (k:Nat):Rd Out:=
 .ret ⟨(d.cu=true/\d.len=1/\d.stride=e.size/\Zw d 0=[.nl]/\e.size=1)/\(z.len+1)*e.bytes<=140737488355328/\z.len+1<=9223372036854775807,
  .c (.own k),[.lab j .dead,.lab k (.deep (z.app [.sl t 0 λ_=>[]]))]⟩
def adp (e:TI) (t nm j:Nat) (y:AC) (d:D):Option fE->Rd Out
 | some (.owned z)=>fU nm (ado e j y z d)
 | some (.deep z)=>fU nm (adn e t j z d)
 | _=>bad
theorem Vh (e:TI) (t nm:Nat) (y:AC) (d:D):Hw e t nm .dF y d=fU nm (ai1 e d):=(rfl)
theorem aac (e:TI) (t nm j:Nat) (y:AC) (d:D):Hw e t nm (.own j) y d= .lab j (adp e t nm j y d):=lF rfl rfl (λ_=>rfl) (λ_=>rfl)
def ai0 (e:TI) (z d:D) (k:Nat):Rd Out:=
 .ret ⟨((d.cu=true/\(d.len≠0->d.stride=e.size))/\(z.len≠0->z.stride=e.size)/\d.len≠0)/\(z.len+d.len)*e.bytes<=140737488355328/\z.len+d.len<=9223372036854775807,
  .c (.own k),[.lab k (.owned (if z.len=0 then D.cat (.sl e.size 0 λ_=>[]) d else D.cat z d))]⟩
theorem aad (e:TI) (t nm:Nat) (z:D) (y:AC) (d:D):Hw e t nm (.X8 z) y d=fU nm (ai0 e z d):=(rfl)
def aiZ (e:TI) (t nm:Nat) (s y:AC) (d:D):Rd Out:=Hw e t nm s y d
theorem Vg (ty:iT) (nm t:Nat) (s y:AC):pX ty true nm t (.u (.c s)) (.u (.c y))=
 match ty t,kF ty t with
 | some { desc:= .slice _,.. },some e=>Jz y (aiZ e (xM ty e) nm s y)
 | _,_=>bad:=by
 unfold pX
 cases ty t with
 | none=>rfl
 | some ti=>
  obtain ⟨_,_,_,_,d,_⟩:=ti
  cases kF ty t with
  | none=>cases d<;>rfl
  | some e=>cases d<;>first | rfl | (cases x<;>rfl)
def alb (x:D) (f:Nat->List AC->List (Nat×D)->Rd Out) (j:Nat) (cs:List AC) (ls:List (Nat×D)):Rd Out:=f j (.d x::cs) ls
def avu (k:Nat) (x:D) (f:Nat->List AC->List (Nat×D)->Rd Out) (j:Nat) (cs:List AC) (ls:List (Nat×D)):Rd Out:=f j (.own k::cs) ((k,x)::ls)
def kRc (nm j:Nat) (r:List RC) (x:D) (f:Nat->List AC->List (Nat×D)->Rd Out) (k:Nat):Rd Out:=eP true nm (j+1) r (avu k x f)
theorem MC (lin:Bool) (nm j:Nat) (f:Nat->List AC->List (Nat×D)->Rd Out):eP lin nm j [] f=f j [] []:=(rfl)
theorem TJ (lin:Bool) (nm j:Nat) (x:D) (r:List RC) (f:Nat->List AC->List (Nat×D)->Rd Out):eP lin nm j (.d x::r) f=eP lin nm j r (alb x f):=(rfl)
theorem MB (nm j:Nat) (x:D) (r:List RC) (f:Nat->List AC->List (Nat×D)->Rd Out):eP true nm j (.own x::r) f=fU (nm+10000*j) (kRc nm j r x f):=(rfl)
theorem I8 (nm j:Nat) (x:D) (r:List RC) (f:Nat->List AC->List (Nat×D)->Rd Out):eP false nm j (.own x::r) f=eP false nm j r (alb x f):=(rfl)
def aiM (f:Nat->AU->List (Nat×D)->Rd Out) (j:Nat) (cs:List AC) (ls:List (Nat×D)):Rd Out:=f j (.c (cs.getD 0 .undef)) ls
def aiN (f:Nat->AU->List (Nat×D)->Rd Out) (j:Nat) (cs:List AC) (ls:List (Nat×D)):Rd Out:=f j (.agg cs) ls
theorem agk (lin:Bool) (nm j:Nat) (x:RC) (f:Nat->AU->List (Nat×D)->Rd Out):Dy lin nm j (.c x) f=eP lin nm j [x] (aiM f):=(rfl)
theorem YV (lin:Bool) (nm j:Nat) (x:List RC) (f:Nat->AU->List (Nat×D)->Rd Out):Dy lin nm j (.agg x) f=eP lin nm j x (aiN f):=(rfl)
def aiO (x:AU) (ls:List (Nat×D)) (f:List AU->List (Nat×D)->Rd Out) (xs:List AU) (ls':List (Nat×D)):Rd Out:=f (x::xs) (ls++ls')
def avv (lin:Bool) (nm:Nat) (rs:List RV) (f:List AU->List (Nat×D)->Rd Out) (j:Nat) (x:AU) (ls:List (Nat×D)):Rd Out:=qQ lin nm j rs (aiO x ls f)
theorem TK (lin:Bool) (nm j:Nat) (f:List AU->List (Nat×D)->Rd Out):qQ lin nm j [] f=f [] []:=(rfl)
theorem Po (lin:Bool) (nm j:Nat) (r:RV) (rs:List RV) (f:List AU->List (Nat×D)->Rd Out):qQ lin nm j (r::rs) f=Dy lin nm j r (avv lin nm rs f):=(rfl)
def kCo (lin:Bool) (ws:List Wr) (p:Prop) (al:Bool) (as:List Arg) (xs:List AU) (ls:List (Nat×D)):Rd Out:=
 if lin=true\/ws.length=0 then
  .ret ⟨p/\(ls.map (·.1)).Nodup/\(al=true->jL as=true),Dx xs,ws++ls.map λp=> .lab p.1 (.owned p.2)⟩
 else bad
theorem aaA (sp:fO) (lin:Bool) (nm:Nat) (caps:List Cap) (as:List Arg) (ws:List Wr):iM sp lin nm caps as ws=qQ lin nm 0 (sp.res as) (kCo lin ws (sp.pre as) sp.alias as):=(rfl)
def kC3 (sp:fO) (lin:Bool) (nm:Nat) (caps:List Cap) (as:List Arg) (ws:List Wr):Rd Out:=iM sp lin nm caps as ws
def alz (sp:fO) (lin:Bool) (nm:Nat) (caps:List Cap) (args:List AV) (as:List Arg):Bool->Rd Out
 | true=>bJ (bY args) (kC3 sp lin nm caps as)
 | false=>iM sp lin nm caps as []
def kC2 (sp:fO) (lin:Bool) (nm:Nat) (caps:List Cap) (args:List AV) (as:List Arg) (ds:List (List D)):Rd Out:=alz sp lin nm caps args (as++ds.map .ptr) sp.alias
def kC1 (sp:fO) (lin:Bool) (nm:Nat) (caps:List Cap) (args:List AV) (as:List Arg):Rd Out:=lM caps (kC2 sp lin nm caps args as)
def kC0 (lin:Bool) (nm:Nat) (caps:List Cap) (args:List AV):Option fO->Rd Out
 | none=>bad
 | some sp=>mF args (kC1 sp lin nm caps args)
theorem Z9 (tb:qj) (lin:Bool) (nm f:Nat) (caps:List Cap) (args:List AV):qI tb lin nm f caps args=kC0 lin nm caps args (tb f):=by
 unfold qI kC0
 cases tb f with
 | none=>rfl
 | some sp=>
  show mF args _=mF args _
  have h:∀ as,(lM caps λds=>if sp.alias then bJ (bY args) λws=>iM sp lin nm caps (as++ds.map .ptr) ws else iM sp lin nm caps (as++ds.map .ptr) [])=kC1 sp lin nm caps args as:=λas=>by
   have h2:∀ ds,(if sp.alias then bJ (bY args) λws=>iM sp lin nm caps (as++ds.map .ptr) ws else iM sp lin nm caps (as++ds.map .ptr) [])=kC2 sp lin nm caps args as ds:=λds=>by
    simp only [kC2]
    cases h:sp.alias<;>rfl
   exact congrArg (lM caps) (funext h2)
  exact congrArg (mF args) (funext h)
section
variable (ty:iT) (tb:qj) (lin:Bool) (d:Option Nat) (T:TypeId) (p:String) (af:Array Edge) (g:Option (Nat×Bool))
theorem Z4 (x:Operand):fJ ty tb lin ⟨d,.move x,T,p,af,g⟩=eG x rP:=(rfl)
theorem Q8 (x:Operand):fJ ty tb lin ⟨d,.assign x,T,p,af,g⟩=eG x rP:=(rfl)
def ac6 (b:Operand) (c a:AV):Rd Out:=eG b (tK c a)
def ac7 (a b:Operand) (c:AV):Rd Out:=eG a (ac6 b c)
theorem ZY (c a b:Operand):fJ ty tb lin ⟨d,.pick c a b,T,p,af,g⟩=eG c (ac7 a b):=(rfl)
def adq (i:TI) (b:Nat):Rd Out:= .ret ⟨True,.c (.ref b 0),[.box b (i.zero.map Dn)]⟩
def XJ (nm:Nat):Option TI->Rd Out
 | some i=>jU nm (adq i)
 | none=>bad
theorem Vd (t:Nat):fJ ty tb true ⟨d,.alloc t,T,p,af,g⟩=XJ (d.getD 0) (ty t):=by
 show (match true,ty t with | true,some i=>_ | _,_=>_)=_
 cases ty t<;>rfl
def aiV (v:AU) (b:Nat):Rd Out:= .ret ⟨v.solid=true,.c (.ref b 0),[.box b v.cells]⟩
def av' (nm:Nat):AV->Rd Out
 | .u v=>jU nm (aiV v)
 | _=>bad
theorem ad8 (t:Nat) (x:Operand):fJ ty tb true ⟨d,.box t x,T,p,af,g⟩=eG x (av' (d.getD 0)):=by
 show eG x _=eG x _
 refine congrArg (eG x) (funext λv=> ?_)
 cases v<;>rfl
def adl (t:Nat) (ix:List Nat) (vs:List AV):Rd Out:=wX ty t (ix.zip vs)
theorem Va (t:Nat) (ps:Array (Nat×Operand)):fJ ty tb lin ⟨d,.build t ps,T,p,af,g⟩=ql (ps.toList.map (·.2)) (adl ty t (ps.toList.map (·.1))):=(rfl)
def XG (nm t n:Nat) (ix:List Nat) (vs:List AV):Rd Out:=jD ty lin nm t n (ix.zip vs)
theorem Ec (t n:Nat) (ps:Array (Nat×Operand)):fJ ty tb lin ⟨d,.buildSlice t n ps,T,p,af,g⟩=ql (ps.toList.map (·.2)) (XG ty lin (d.getD 0) t n (ps.toList.map (·.1))):=(rfl)
theorem Z5 (t:Nat) (a:Operand):fJ ty tb lin ⟨d,.load t a,T,p,af,g⟩=eG a (nM ty lin (d.getD 0) t):=(rfl)
def alh (k j off:Nat) (x:D) (i:TI) (kk:Nat):Rd Out:=
 .ret ⟨i.agg=false/\off=0/\j<x.len/\(yd x j).cu=true,.c (.own kk),[.lab k (.deep (x.setAt j 0 [.undef])),.lab kk (.owned (yd x j))]⟩
def alj (nm k j off:Nat) (x:D):Bool->Option TI->Rd Out
 | true,some i=>fU nm (alh k j off x i)
 | _,_=>bad
def kLh (nm t k j off:Nat):Option fE->Rd Out
 | some (.deep x)=>alj nm k j off x lin (ty t)
 | _=>iZ ty t (.u (.c (.iE k j off)))
theorem NQ (nm t k j off:Nat):nM ty lin nm t (.u (.c (.iE k j off)))= .lab k (kLh ty lin nm t k j off):=by
 refine lF rfl rfl (λ_=>rfl) (λ_=>rfl) (λx=> ?_)
 simp only [kLh]
 cases ty t<;>cases lin<;>rfl
theorem Rf (nm t b off:Nat):nM ty lin nm t (.u (.c (.ref b off)))=iZ ty t (.u (.c (.ref b off))):=(rfl)
theorem NP (nm t off:Nat) (l:List D):nM ty lin nm t (.u (.c (.dM l off)))=iZ ty t (.u (.c (.dM l off))):=(rfl)
theorem Z8 (nm t:Nat) (x:D):nM ty lin nm t (.u (.c (.d x)))=iZ ty t (.u (.c (.d x))):=(rfl)
theorem NR (nm t g off:Nat):nM ty lin nm t (.u (.c (.glob g off)))=iZ ty t (.u (.c (.glob g off))):=(rfl)
theorem avP (nm t k j off:Nat) (x:D):kLh ty lin nm t k j off (some (.owned x))=iZ ty t (.u (.c (.iE k j off))):=(rfl)
theorem avO (nm t k j off:Nat) (x:D):kLh ty lin nm t k j off (some (.shared x))=iZ ty t (.u (.c (.iE k j off))):=(rfl)
theorem avQ (nm t k j off:Nat) (x:D):kLh ty lin nm t k j off (some (.deep x))=alj nm k j off x lin (ty t):=(rfl)
theorem ali (nm k j off:Nat) (x:D) (i:TI):alj nm k j off x true (some i)=fU nm (alh k j off x i):=(rfl)
def alp (k j off kk:Nat) (x y:D):Option TI->Rd Out
 | some i=> .ret ⟨i.size=1/\off=0/\j<x.len,default,[.lab k (.deep (x.setAt j 0 [y])),.lab kk .dead]⟩
 | none=>bad
def ag9 (t k j off kk:Nat) (x:D):Option fE->Rd Out
 | some (.owned y)=>alp k j off kk x y (ty t)
 | _=>bad
def kHs (t k j off kk:Nat):Option fE->Rd Out
 | some (.deep x)=> .lab kk (ag9 ty t k j off kk x)
 | _=>bad
theorem NH (t k j off kk:Nat):kY ty t (.u (.c (.iE k j off))) (.u (.c (.own kk)))= .lab k (kHs ty t k j off kk):=by
 refine lF rfl rfl (λ_=>rfl) (λ_=>rfl) (λx=> ?_) (λ_=>rfl)
 refine lF rfl rfl (λy=> ?_) (λ_=>rfl) (λ_=>rfl) (λ_=>rfl)
 simp only [ag9]; cases ty t<;>rfl
theorem NG (t b off:Nat) (v:AV):kY ty t (.u (.c (.ref b off))) v=lG ty t (.u (.c (.ref b off))) v:=(rfl)
theorem U4 (t k j off:Nat) (x:D):kY ty t (.u (.c (.iE k j off))) (.u (.c (.d x)))=lG ty t (.u (.c (.iE k j off))) (.u (.c (.d x))):=(rfl)
theorem Jl (t k j off:Nat):kY ty t (.u (.c (.iE k j off))) (.u (.c .dF))=lG ty t (.u (.c (.iE k j off))) (.u (.c .dF)):=(rfl)
theorem NI (t k j off:Nat) (l:List AC):kY ty t (.u (.c (.iE k j off))) (.u (.agg l))=lG ty t (.u (.c (.iE k j off))) (.u (.agg l)):=(rfl)
theorem avY (t k j off kk:Nat) (x:D):kHs ty t k j off kk (some (.deep x))= .lab kk (ag9 ty t k j off kk x):=(rfl)
theorem alq (t k j off kk:Nat) (x y:D):ag9 ty t k j off kk x (some (.owned y))=alp k j off kk x y (ty t):=(rfl)
theorem alo (k j off kk:Nat) (x y:D) (i:TI):alp k j off kk x y (some i)= .ret ⟨i.size=1/\off=0/\j<x.len,default,[.lab k (.deep (x.setAt j 0 [y])),.lab kk .dead]⟩:=(rfl)
def aiE (t:Nat) (a v:AV):Rd Out:=kY ty t a v
def avl (t:Nat) (v:Operand) (a:AV):Rd Out:=eG v (aiE ty t a)
theorem U6 (t:Nat) (a v:Operand):fJ ty tb true ⟨d,.store t a v,T,p,af,g⟩=eG a (avl ty t v):=(rfl)
def avA (v:AV):Rd Out:=match v with
 | .u (.c (.ref _ _)) | .u (.c (.dM _ _))=>rP v
 | .u (.c (.d (.pt b l)))=> .ret ⟨b=true,.c (.d (.pt b l)),[]⟩
 | _=>bad
theorem Jm (x:Operand):fJ ty tb lin ⟨d,.nilCheck x,T,p,af,g⟩=eG x avA:=(rfl)
def awc (op:BinOp) (t:Nat) (y:Operand) (x:AV):Rd Out:=eG y (KA ty (isConst y) op t x)
theorem Vb (op:BinOp) (t:Nat) (x y:Operand) (u:TypeId):fJ ty tb lin ⟨d,.binOp op t x y u,T,p,af,g⟩=eG x (awc ty op t y):=(rfl)
def avC:AV->Rd Out
 | .u (.c (.d (.int k n)))=>rP (.c (.d (.int k (k.wrap (0 - n)))))
 | _=>bad
def avz:AV->Rd Out
 | .u (.c (.d (.bool b)))=>rP (.c (.d (.bool !b)))
 | _=>bad
theorem ad4 (t:Nat) (x:Operand):fJ ty tb lin ⟨d,.unOp .neg t x,T,p,af,g⟩=eG x avC:=by
 refine congrArg (eG x) (funext λv=> ?_)
 rcases v with (x | l) | _ | _<;>first | rfl | (cases x<;>first | rfl | (rename_i y; cases y<;>rfl))
theorem ad3 (t:Nat) (x:Operand):fJ ty tb lin ⟨d,.unOp .not t x,T,p,af,g⟩=eG x avz:=by
 refine congrArg (eG x) (funext λv=> ?_)
 rcases v with (x | l) | _ | _<;>first | rfl | (cases x<;>first | rfl | (rename_i y; cases y<;>rfl))
def aiS (t:Nat) (x:Operand):Option TI->Rd Out
 | some { desc:= .slice e,.. } =>eG x (lZ ty e t)
 | some _=>eG x (oW ty t)
 | none=>bad
theorem NM (s t:Nat) (x:Operand):fJ ty tb lin ⟨d,.convert s t x,T,p,af,g⟩=aiS ty t x (ty s):=by
 show (match ty s with | some { desc:= .slice e,.. } =>_ | some _=>_ | none=>_)=_
 cases ty s with
 | none=>rfl
 | some i=>
  obtain ⟨_,_,_,_,d,_⟩:=i
  cases d<;>rfl
def avJ (f:Nat):Option (List Cap)->Rd Out
 | some cs=>rP (.c (.clo f cs))
 | none=>bad
def kMf (f:Nat) (vs:List AV):Rd Out:=avJ f (ug vs)
theorem Jo (f:Nat) (caps:Array Operand):fJ ty tb lin ⟨d,.makeFunc (.func f) #[] caps,T,p,af,g⟩=ql caps.toList (kMf f):=by
 show ql caps.toList _=_
 refine congrArg (ql caps.toList) (funext λv=> ?_)
 simp only [kMf]
 cases ug v<;>rfl
def avH (nm t:Nat) (l c:AV):Rd Out:=lY ty lin nm t l c
def kMs (nm t:Nat) (c:Operand) (l:AV):Rd Out:=eG c (avH ty lin nm t l)
theorem He (t:Nat) (l c:Operand):fJ ty tb lin ⟨d,.makeSlice t l c,T,p,af,g⟩=eG l (kMs ty lin (d.getD 0) t c):=(rfl)
def aiL (t:Nat) (mx:Option Operand) (x:AV):Rd Out:=kP ty t x none none mx.isSome
def ac4 (t:Nat) (mx:Option Operand) (x l:AV):Rd Out:=kP ty t x (some l) none mx.isSome
def aiG (t:Nat) (l:Operand) (mx:Option Operand) (x:AV):Rd Out:=eG l (ac4 ty t mx x)
def ac5 (t:Nat) (mx:Option Operand) (x h:AV):Rd Out:=kP ty t x none (some h) mx.isSome
def aiH (t:Nat) (h:Operand) (mx:Option Operand) (x:AV):Rd Out:=eG h (ac5 ty t mx x)
def aiI (t:Nat) (mx:Option Operand) (x l h:AV):Rd Out:=kP ty t x (some l) (some h) mx.isSome
def aiJ (t:Nat) (h:Operand) (mx:Option Operand) (x l:AV):Rd Out:=eG h (aiI ty t mx x l)
def aiK (t:Nat) (l h:Operand) (mx:Option Operand) (x:AV):Rd Out:=eG l (aiJ ty t h mx x)
theorem QZ (t:Nat) (x:Operand) (mx:Option Operand):fJ ty tb lin ⟨d,.slice t x none none mx,T,p,af,g⟩=eG x (aiL ty t mx):=(rfl)
theorem QX (t:Nat) (x l:Operand) (mx:Option Operand):fJ ty tb lin ⟨d,.slice t x (some l) none mx,T,p,af,g⟩=eG x (aiG ty t l mx):=(rfl)
theorem QY (t:Nat) (x h:Operand) (mx:Option Operand):fJ ty tb lin ⟨d,.slice t x none (some h) mx,T,p,af,g⟩=eG x (aiH ty t h mx):=(rfl)
theorem U7 (t:Nat) (x l h:Operand) (mx:Option Operand):fJ ty tb lin ⟨d,.slice t x (some l) (some h) mx,T,p,af,g⟩=eG x (aiK ty t l h mx):=(rfl)
theorem Hg (s:Nat) (x:Operand) (f:Nat):fJ ty tb lin ⟨d,.fieldAddr s x f,T,p,af,g⟩=eG x (ku ty s f):=(rfl)
theorem U9 (s:Nat) (x:Operand) (f:Nat):fJ ty tb lin ⟨d,.field s x f,T,p,af,g⟩=eG x (wW ty s f):=(rfl)
def avT (t:Nat) (i:Operand) (x:AV):Rd Out:=eG i (iH ty t x)
theorem Hf (t:Nat) (x i:Operand):fJ ty tb lin ⟨d,.indexAddr t x i,T,p,af,g⟩=eG x (avT ty t i):=(rfl)
def avX (t:Nat) (i:Operand) (x:AV):Rd Out:=eG i (wV ty t x)
theorem U8 (t:Nat) (x i:Operand):fJ ty tb lin ⟨d,.index t x i,T,p,af,g⟩=eG x (avX ty t i):=(rfl)
def av1 (i:Nat):AV->Rd Out
 | .Jy l=> .ret ⟨i<l.length,.u (l.getD i default),[]⟩
 | _=>bad
theorem NK (x:Operand) (i:Nat):fJ ty tb lin ⟨d,.extract x i,T,p,af,g⟩=eG x (av1 i):=by
 refine congrArg (eG x) (funext λv=> ?_)
 cases v<;>rfl
theorem ad7 (x:Operand) (t:TypeId):fJ ty tb lin ⟨d,.call ⟨.builtin .len, #[x], #[t]⟩,T,p,af,g⟩=eG x (Hq ty t):=(rfl)
def awd (nm t:Nat) (s x:AV):Rd Out:=pX ty lin nm t s x
def kAp (nm t:Nat) (x:Operand) (s:AV):Rd Out:=eG x (awd ty lin nm t s)
def awe (nm t:Nat) (s x:Operand):Option TI->Rd Out
 | some { desc:= .slice _,.. } =>eG s (kAp ty lin nm t x)
 | _=>bad
theorem Q9 (s x : Operand) (t u : TypeId) : fJ ty tb lin ⟨d, .call ⟨.builtin .append, #[s, x], #[t, u]⟩, T, p, af, g⟩ = awe ty lin (d.getD 0) t s x (ty u) := by
  show (match ty u with | some { desc := .slice _, .. } => _ | _ => _) = _
  cases ty u with
  | none => rfl
  | some ti => obtain ⟨_, _, _, _, d, _⟩ := ti
               cases d <;> rfl
def avI (kk:Nat):Rd Out:= .ret ⟨True,.c (.own kk),[.lab kk (.set (.keys (D.ofList 1 [])))]⟩
def aiR (kk:Nat):Rd Out:= .ret ⟨True,.c (.own kk),[.lab kk (.set (.tab []))]⟩
def ale (nm:Nat):Bool->Option TI->Rd Out
 | true,some { desc:= .string,.. } =>fU nm avI
 | true,some { desc:= .int .i64,.. } =>fU nm aiR
 | _,_=>bad
def kMm (nm:Nat):Option TI->Rd Out
 | some { desc:= .map k _,.. } =>ale nm lin (ty k)
 | _=>bad
theorem NJ (t:Nat):fJ ty tb lin ⟨d,.makeMap t none,T,p,af,g⟩=kMm ty lin (d.getD 0) (ty t):=by
 show oV ty lin (d.getD 0) t=_
 unfold oV kMm
 cases ty t with
 | none=>cases lin<;>rfl
 | some ti=>
  obtain ⟨_,_,_,_,d,_⟩:=ti
  cases d<;>first | (cases lin<;>rfl; done) | skip
  rename_i k e
  cases lin with
  | false=>rfl
  | true=>
   show (match ty k with | some { desc:= .string,.. } =>_ | some { desc:= .int .i64,.. } =>_ | _=>_)=ale _ true (ty k)
   cases ty k with
   | none=>rfl
   | some ti=>obtain ⟨_,_,_,_,d,_⟩:=ti; cases d<;>first | rfl | (rename_i k; cases k<;>rfl)
def adi (n:Int):Option (Nat×Nat×Nat×Nat)->Rd Out
 | some (b,off,m,s)=> .ret ⟨0<=n,.c (.xg b off m s),[]⟩
 | none=>bad
def avK (n:Int):Option fE->Rd Out
 | some (.set (.tab l))=>adi n (lk l n.toNat)
 | _=>bad
theorem alf (n:Int) (l:List (Nat×Nat×Nat×Nat×Nat)):avK n (some (.set (.tab l)))=adi n (lk l n.toNat):=(rfl)
def avM (kk:Nat) (n:Int):Option TI->Rd Out
 | some { desc:= .int .i64,.. } => .lab kk (avK n)
 | _=>bad
theorem Vf (t kk:Nat) (n:Int):mO ty t (.u (.c (.own kk))) (.u (.c (.d (.int .i64 n))))=match ty t with
 | some { desc:= .map q _,.. } =>avM kk n (ty q)
 | _=>bad:=by
 unfold mO
 cases ty t with
 | none=>rfl
 | some ti=>
  obtain ⟨_,_,_,_,d,_⟩:=ti
  cases d<;>rfl
def avL (s:ByteArray):Option fE->Rd Out
 | some (.set (.keys x))=> .ret ⟨True,.c (.d (.bool (UO x s))),[]⟩
 | _=>bad
theorem alg (s:ByteArray) (x:D):avL s (some (.set (.keys x)))= .ret ⟨True,.c (.d (.bool (UO x s))),[]⟩:=(rfl)
def kLk (kk:Nat) (s:ByteArray):Option TI->Option TI->Rd Out
 | some { desc:= .string,.. },some { desc:= .bool,zero:=[.bool false],agg:=false,.. } => .lab kk (avL s)
 | _,_=>bad
theorem Ve (t kk:Nat) (s:ByteArray):mO ty t (.u (.c (.own kk))) (.u (.c (.d (.str s))))=match ty t with
 | some { desc:= .map q e,.. } =>kLk kk s (ty q) (ty e)
 | _=>bad:=by
 unfold mO
 cases ty t with
 | none=>rfl
 | some ti=>
  obtain ⟨_,_,_,_,d,_⟩:=ti
  cases d<;>rfl
def avN (t:Nat) (k:Operand) (x:AV):Rd Out:=eG k (mO ty t x)
theorem Q5 (t:Nat) (x k:Operand):fJ ty tb lin ⟨d,.lookup t x k false,T,p,af,g⟩=eG x (avN ty t k):=(rfl)
def avG (kk:Nat) (s:ByteArray) (b:Bool):Option fE->Rd Out
 | some (.set (.keys x))=> .ret ⟨b=true,default,[.lab kk (.set (.keys (D.cat x (D.ofList 1 [[.str s]]))))]⟩
 | _=>bad
theorem ald (kk:Nat) (s:ByteArray) (b:Bool) (x:D):avG kk s b (some (.set (.keys x)))= .ret ⟨b=true,default,[.lab kk (.set (.keys (D.cat x (D.ofList 1 [[.str s]]))))]⟩:=(rfl)
def kMu (kk:Nat) (s:ByteArray) (b:Bool):Option TI->Rd Out
 | some { desc:= .string,.. } => .lab kk (avG kk s b)
 | _=>bad
theorem Jp (t kk:Nat) (s:ByteArray) (b:Bool):iG ty t (.u (.c (.own kk))) (.u (.c (.d (.str s)))) (.u (.c (.d (.bool b))))=match ty t with
 | some { desc:= .map q _,.. } =>kMu kk s b (ty q)
 | _=>bad:=by
 unfold iG
 cases ty t with
 | none=>rfl
 | some ti=>
  obtain ⟨_,_,_,_,d,_⟩:=ti
  cases d<;>rfl
def aiQ (kk:Nat) (n:Int) (b off m s:Nat):Option fE->Rd Out
 | some (.set (.tab l))=> .ret ⟨0<=n/\(lk l n.toNat).isNone=true,default,[.lab kk (.set (.tab ((n.toNat,b,off,m,s)::l)))]⟩
 | _=>bad
theorem ag5 (kk:Nat) (n:Int) (b off m s:Nat) (l:List (Nat×Nat×Nat×Nat×Nat)):aiQ kk n b off m s (some (.set (.tab l)))= .ret ⟨0<=n/\(lk l n.toNat).isNone=true,default,[.lab kk (.set (.tab ((n.toNat,b,off,m,s)::l)))]⟩:=(rfl)
def avD (kk:Nat) (n:Int) (b off m s:Nat):Option TI->Rd Out
 | some { desc:= .int .i64,.. } => .lab kk (aiQ kk n b off m s)
 | _=>bad
theorem Jq (t kk:Nat) (n:Int) (b off m s:Nat):iG ty t (.u (.c (.own kk))) (.u (.c (.d (.int .i64 n)))) (.u (.c (.xg b off m s)))=match ty t with
 | some { desc:= .map q _,.. } =>avD kk n b off m s (ty q)
 | _=>bad:=by
 unfold iG
 cases ty t with
 | none=>rfl
 | some ti=>
  obtain ⟨_,_,_,_,d,_⟩:=ti
  cases d<;>rfl
def avE (t:Nat) (x k v:AV):Rd Out:=iG ty t x k v
def avF (t:Nat) (v:Operand) (x k:AV):Rd Out:=eG v (avE ty t x k)
def alc (t:Nat) (k v:Operand) (x:AV):Rd Out:=eG k (avF ty t v x)
theorem G9 (t:Nat) (x k v:Operand):fJ ty tb true ⟨d,.mapUpdate t x k v,T,p,af,g⟩=eG x (alc ty t k v):=(rfl)
theorem Q7 (t:Nat) (x k v:Operand):fJ ty tb true ⟨d,.insert t x k v,T,p,af,g⟩=eG x (alc ty t k v):=(rfl)
theorem U5 (t:Nat) (x:Operand):fJ ty tb lin ⟨d,.sliceToArrayPointer t x,T,p,af,g⟩=eG x (wU ty t):=(rfl)
theorem ad6 (args:Array Operand) (ts:Array TypeId):fJ ty tb lin ⟨d,.call ⟨.builtin .max,args,ts⟩,T,p,af,g⟩=ql args.toList (kZ true):=(rfl)
theorem ad5 (args:Array Operand) (ts:Array TypeId):fJ ty tb lin ⟨d,.call ⟨.builtin .min,args,ts⟩,T,p,af,g⟩=ql args.toList (kZ false):=(rfl)
def Ux (nm f:Nat) (caps:List Cap) (vs:List AV):Rd Out:=qI tb lin nm f caps vs
def aiU (nm:Nat) (args:List Operand):AV->Rd Out
 | .u (.c (.clo f caps))=>ql args (Ux tb lin nm f caps)
 | .u (.c (.d (.fn f)))=>ql args (Ux tb lin nm f [])
 | _=>bad
theorem Z7 (f:Operand) (args:Array Operand) (ts:Array TypeId):fJ ty tb lin ⟨d,.call ⟨.value f,args,ts⟩,T,p,af,g⟩=eG f (aiU tb lin (d.getD 0) args.toList):=by
 show eG f _=_
 refine congrArg (eG f) (funext λv=> ?_)
 rcases v with (x | l) | _ | _<;>first | rfl | (cases x<;>first | rfl | (rename_i y; cases y<;>rfl))
def kG (o:Oper) (want:Bool):AV->Rd Out
 | .u (.c (.d (.bool b)))=>dP (b == want) o.op (fJ ty tb false o)
 | .cnd q (.c (.d (.bool b)))=>dP (q && (b == want)) o.op (fJ ty tb false o)
 | _=>bad
def kG0 (o:Oper) (want:Bool):Option Nat->Rd Out
 | none=>bad
 | some t=> .slot t (kG ty tb o want)
theorem Ht (ds:List (Option Nat)) (op:Op):eX ty tb ds ⟨d,op,T,p,af,none⟩=fJ ty tb true ⟨d,op,T,p,af,none⟩:=(rfl)
theorem Hr (ds:List (Option Nat)) (op:Op) (j:Nat) (want:Bool):eX ty tb ds ⟨d,op,T,p,af,some (j,want)⟩=kG0 ty tb ⟨d,op,T,p,af,some (j,want)⟩ want (Qb ds j):=by
 show (match Qb ds j with | none=>_ | some t=>_)=_
 cases Qb ds j with
 | none=>rfl
 | some t=>
  refine congrArg (Rd.slot t) (funext λv=> ?_)
  rcases v with (x | l) | _ | ⟨q,(x | l)⟩<;>first | rfl | (cases x<;>first | rfl | (rename_i y; cases y<;>rfl))
end
def avw (c:Bool) (p x y:AV):Rd Out:=Ar c p x y
def avx (c:Bool) (y:Operand) (p x:AV):Rd Out:=eG y (avw c p x)
def avy (c:Bool) (x y:Operand) (p:AV):Rd Out:=eG x (avx c y p)
theorem OO (c:Bool) (p x y:Operand) (r:Rd Out):dP c (.pick p x y) r=eG p (avy c x y):=(rfl)
theorem OQ (c:Bool) (x:Operand) (r:Rd Out):dP c (.move x) r=bQ c r:=(rfl)
theorem IW (c:Bool) (x:Operand) (r:Rd Out):dP c (.assign x) r=bQ c r:=(rfl)
theorem LD (c:Bool) (t:TypeId) (ps:Array (Nat×Operand)) (r:Rd Out):dP c (.build t ps) r=bQ c r:=(rfl)
theorem zy (c:Bool) (t n:Nat) (ps:Array (Nat×Operand)) (r:Rd Out):dP c (.buildSlice t n ps) r=bQ c r:=(rfl)
theorem OT (c:Bool) (t:TypeId) (x:Operand) (r:Rd Out):dP c (.load t x) r=bQ c r:=(rfl)
theorem SC (c:Bool) (x:Operand) (r:Rd Out):dP c (.nilCheck x) r=bQ c r:=(rfl)
theorem SE (c:Bool) (o:BinOp) (t u:TypeId) (x y:Operand) (r:Rd Out):dP c (.binOp o t x y u) r=bQ c r:=(rfl)
theorem Yz (c:Bool) (o:UnOp) (t:TypeId) (x:Operand) (r:Rd Out):dP c (.unOp o t x) r=bQ c r:=(rfl)
theorem OU (c:Bool) (s t:TypeId) (x:Operand) (r:Rd Out):dP c (.convert s t x) r=bQ c r:=(rfl)
theorem Lr (c:Bool) (t:TypeId) (x:Operand) (a b d:Option Operand) (r:Rd Out):dP c (.slice t x a b d) r=bQ c r:=(rfl)
theorem AY (c:Bool) (t:TypeId) (x:Operand) (i:Nat) (r:Rd Out):dP c (.fieldAddr t x i) r=bQ c r:=(rfl)
theorem LC (c:Bool) (t:TypeId) (x:Operand) (i:Nat) (r:Rd Out):dP c (.field t x i) r=bQ c r:=(rfl)
theorem AX (c:Bool) (t:TypeId) (x i:Operand) (r:Rd Out):dP c (.indexAddr t x i) r=bQ c r:=(rfl)
theorem Lu (c:Bool) (t:TypeId) (x i:Operand) (r:Rd Out):dP c (.index t x i) r=bQ c r:=(rfl)
theorem IV (c:Bool) (t:TypeId) (x k:Operand) (b:Bool) (r:Rd Out):dP c (.lookup t x k b) r=bQ c r:=(rfl)
theorem Lp (c:Bool) (t:TypeId) (x:Operand) (r:Rd Out):dP c (.sliceToArrayPointer t x) r=bQ c r:=(rfl)
theorem ED (c:Bool) (x:Operand) (i:Nat) (r:Rd Out):dP c (.extract x i) r=bQ c r:=(rfl)
theorem OW (c:Bool) (k:Call) (r:Rd Out):dP c (.call k) r=bQ c r:=(rfl)
theorem DW (c:Bool) (f:Fn) (a b:Array Operand) (r:Rd Out):dP c (.makeFunc f a b) r=bQ c r:=(rfl)
attribute [go_sem] avw avx avy OO OQ IW LD zy OT SC SE Yz OU Lr AY LC AX Lu ED OW DW Ar
def kU (c:Bool) (k:Option fE->Rd Out) (v:Option fE):Rd Out:=bQ c (k v)
theorem SH (c:Bool) (l:Nat) (k:Option fE->Rd Out):bQ c (.lab l k)= .lab l (kU c k):=(rfl)
def kUB (c:Bool) (k:Option (List AC)->Rd Out) (v:Option (List AC)):Rd Out:=bQ c (k v)
theorem SI (c:Bool) (l:Nat) (k:Option (List AC)->Rd Out):bQ c (.box l k)= .box l (kUB c k):=(rfl)
def aaY (c:Bool):List Wr->AV->Prop->Rd Out
 | [],.u x,p=> .ret ⟨c=true->p,.cnd c x,[]⟩
 | _,_,_=>bad
theorem SG (c:Bool) (p:Prop) (v:AV) (ws:List Wr):bQ c (.ret ⟨p,v,ws⟩)=aaY c ws v p:=by
 cases ws<;>cases v<;>rfl
theorem abo (t:Nat) (k:AV->Rd Out) (st:St):(Rd.slot t k).run st=(k ((lk st.sl t).getD default)).run st:=(rfl)
theorem agf (t:Nat) (k:Option fE->Rd Out) (st:St):(Rd.lab t k).run st=(k (lk st.lb t)).run st:=(rfl)
theorem agi (t:Nat) (k:Option (List AC)->Rd Out) (st:St):(Rd.box t k).run st=(k (lk st.bx t)).run st:=(rfl)
theorem agd (a:Out) (st:St):(Rd.ret a).run st=a:=(rfl)
theorem Pj (t:Nat) (f:AV->Rd Out) (st:St):(eG (.tmp t) f).run st=(f ((lk st.sl t).getD default)).run st:=(rfl)
theorem I7 (v:Value) (f:AV->Rd Out) (st:St):(eG (.const v) f).run st=(f (ofValue v)).run st:=(rfl)
theorem L8 (g:Nat) (f:AV->Rd Out) (st:St):(eG (.global g) f).run st=(f (.c (.glob g 0))).run st:=(rfl)
theorem L9 (g:Nat) (f:AV->Rd Out) (st:St):(eG (.func g) f).run st=(f (.c (.clo g []))).run st:=(rfl)
theorem aDe (f:D->Rd Out) (x:D):kD f (some (.owned x))=f x:=(rfl)
theorem aDd (f:D->Rd Out) (x:D):kD f (some (.shared x))=f x:=(rfl)
theorem alv (f:List D->Rd Out) (cs:List AC):av2 f (some cs)=qM cs f:=(rfl)
theorem alA (off n s:Nat) (f:Arg->Rd Out) (cs:List AC):av4 off n s f (some cs)=aeV off n s cs (XI f):=(rfl)
theorem ag4 (n nm:Nat) (f:Nat->Rd Out):XE n nm f none=f nm:=(rfl)
theorem ag3 (n nm:Nat) (f:Nat->Rd Out) (l:fE):XE n nm f (some l)=qC n (nm+100000) f:=(rfl)
theorem ac' (n nm:Nat) (f:Nat->Rd Out):Nr n nm f none=f nm:=(rfl)
theorem ac9 (n nm:Nat) (f:Nat->Rd Out) (l:List AC):Nr n nm f (some l)=qE n (nm+100000) f:=(rfl)
theorem avt (k:Nat) (r:List AC) (f:List Wr->Rd Out) (x:D):kSh k r f (some (.owned x))=bJ r (ala k x f):=(rfl)
theorem avs (k:Nat) (r:List AC) (f:List Wr->Rd Out) (x:D):kSh k r f (some (.shared x))=bJ r f:=(rfl)
theorem ade (i:TI) (off:Nat) (cs:List AC):adf i off (some cs)=iF i off cs:=(rfl)
theorem adb (i:TI) (j off:Nat) (x:D):Uw i j off (some (.owned x))=iF i off ((x.nth j).map .d):=(rfl)
theorem ada (i:TI) (j off:Nat) (x:D):Uw i j off (some (.shared x))=iF i off ((x.nth j).map .d):=(rfl)
theorem als (k i o:Nat) (x:D):alu k i o (some (.owned x))=rP (.c (.iE k i o)):=(rfl)
theorem alr (k i o:Nat) (x:D):alu k i o (some (.shared x))=rP (.c (.iE k i o)):=(rfl)
theorem ag' (e:TI) (t nm j:Nat) (y:AC) (d z:D):adp e t nm j y d (some (.owned z))=fU nm (ado e j y z d):=(rfl)
theorem aha (e:TI) (t nm j:Nat) (y:AC) (d z:D):adp e t nm j y d (some (.deep z))=fU nm (adn e t j z d):=(rfl)
theorem alx (sp:fO) (lin:Bool) (nm:Nat) (caps:List Cap) (args:List AV) (as:List Arg):alz sp lin nm caps args as true=bJ (bY args) (kC3 sp lin nm caps as):=(rfl)
theorem aly (sp:fO) (lin:Bool) (nm:Nat) (caps:List Cap) (args:List AV) (as:List Arg):alz sp lin nm caps args as false=iM sp lin nm caps as []:=(rfl)
theorem av3 (lin:Bool) (nm:Nat) (caps:List Cap) (args:List AV) (sp:fO):kC0 lin nm caps args (some sp)=mF args (kC1 sp lin nm caps args):=(rfl)
attribute [go_sem] L8 FK IX Qq aiP acD Zv aDe aDd anL aa0 av7 amj alA SX YF avp aa1 afE VR kDs aaZ YA alv aau Vw aiT Vu Rt XI aiY aiX YE afF SY YD YG
 aiW SV O1 ag4 ag3 JY acK ac' ac9 JZ acL ala avt avs IZ IY Pg FM I4 ac8 Uk Qe ade adb ada adg adh ad9
 avm aiF ak' avn kSt ZW als alr avZ kFa Jr avV avU avW Ed BN alm alk av8 av9 av5 av6 UM UK adI QD UL QC UN kBs Hu avq avr avo ZX avS ag7 ag6 ag8 adk ahs ai1 ag' aha adn ado ai0 aad Vh aac aiZ Vg
 alb avu kRc MC TJ MB I8 aiM aiN agk YV aiO avv TK Po kCo aaA kC3 alx aly kC2 kC1 av3 Z9
 Z4 Q8 ac6 ac7 ZY adq XJ Vd aiV av' ad8 adl Va XG Ec Z5 aiE avl U6 avA Jm awc Vb avC avz ad4 ad3
 aiS NM avJ kMf Jo avH kMs He aiL ac4 aiG ac5 aiH aiI aiJ aiK QZ QX QY U7 Hg U9 avT Hf avX U8 av1 NK
 SN YC afD YB SL SQ NQ Rf NP Z8 NR avP avO avQ ali alh xM NH NG U4 Jl NI avY alq alo
 avI aiR ale kMm NJ adi alf avM Vf ag5 avD Jq alg kLk Ve avN Q5 ald kMu Jp avE avF alc G9 Q7 IV U5 Lp ad7 awd kAp awe Q9 ad6 ad5 Ux aiU Z7 kG kG0 Ht Hr kU SH kUB SI aaY SG abo agf agi agd Pj I7 L9
end Go.dR
set_option linter.unusedVariables false
set_option linter.unusedSimpArgs false
namespace Go.dR
def EC (c:Bool) (v:AV) (f:AV->Rd Out):Rd Out:=
 match v with
 | .cnd q x=>mW (c=true->q=true) (bQ c (f (.u x)))
 | v=>bQ c (f v)
theorem FQ (c:Bool) (t:Nat) (f:AV->Rd Out) (st:St):(bQ c (eG (.tmp t) f)).run st=(EC c ((lk st.sl t).getD default) f).run st:=by
 simp only [eG,bQ,Rd.run]
 cases (lk st.sl t).getD default<;>rfl
theorem A8 (c:Bool) (v:Value) (f:AV->Rd Out) (st:St):(bQ c (eG (.const v) f)).run st=(bQ c (f (ofValue v))).run st:=rfl
theorem DX (c:Bool) (g:Nat) (f:AV->Rd Out) (st:St):(bQ c (eG (.global g) f)).run st=(bQ c (f (.c (.glob g 0)))).run st:=rfl
theorem DY (c:Bool) (g:Nat) (f:AV->Rd Out) (st:St):(bQ c (eG (.func g) f)).run st=(bQ c (f (.c (.clo g [])))).run st:=rfl
theorem aaX (c:Bool) (x:AU) (f:AV->Rd Out):EC c (.u x) f=bQ c (f (.u x)):=rfl
theorem SA (c:Bool) (x:List AU) (f:AV->Rd Out):EC c (.Jy x) f=bQ c (f (.Jy x)):=rfl
theorem SB (c q:Bool) (x:AU) (f:AV->Rd Out):EC c (.cnd q x) f=mW (c=true->q=true) (bQ c (f (.u x))):=rfl
theorem Ql (t:Nat) (f:AV->Rd Out) (st:St):(eG (.tmp t) f).log st= .slot t::(f ((lk st.sl t).getD default)).log st:=rfl
theorem Jg (v:Value) (f:AV->Rd Out) (st:St):(eG (.const v) f).log st=(f (ofValue v)).log st:=rfl
theorem Nc (g:Nat) (f:AV->Rd Out) (st:St):(eG (.global g) f).log st=(f (.c (.glob g 0))).log st:=rfl
theorem D9 (c:Bool) (g:Nat) (f:AV->Rd Out) (st:St):(bQ c (eG (.global g) f)).log st=(bQ c (f (.c (.glob g 0)))).log st:=rfl
theorem Nh (g:Nat) (f:AV->Rd Out) (st:St):(eG (.func g) f).log st=(f (.c (.clo g []))).log st:=rfl
theorem Ut (p:Prop) (r:Rd Out) (st:St):(mW p r).log st=r.log st:=by
 induction r with
 | ret o=>rfl
 | slot t k ih=>simp only [mW,Rd.log]; rw [ih]
 | box b k ih=>simp only [mW,Rd.log]; rw [ih]
 | lab l k ih=>simp only [mW,Rd.log]; rw [ih]
theorem Gv (c:Bool) (t:Nat) (f:AV->Rd Out) (st:St):(bQ c (eG (.tmp t) f)).log st= .slot t::(EC c ((lk st.sl t).getD default) f).log st:=by
 simp only [eG,bQ,Rd.log]
 cases (lk st.sl t).getD default<;>rfl
theorem BF (c:Bool) (v:Value) (f:AV->Rd Out) (st:St):(bQ c (eG (.const v) f)).log st=(bQ c (f (ofValue v))).log st:=rfl
theorem Ea (c:Bool) (g:Nat) (f:AV->Rd Out) (st:St):(bQ c (eG (.func g) f)).log st=(bQ c (f (.c (.clo g [])))).log st:=rfl
theorem getD_some {α:Type} (x d:α):(some x).getD d=x:=rfl
theorem getD_none {α:Type} (d:α):(none:Option α).getD d=d:=rfl
def lkc {α:Type}:Bool->α->List (Nat×α)->Nat->Option α
 | true,v,_,_=>some v
 | false,_,r,k=>lk r k
theorem avh {α:Type} (v:α) (r:List (Nat×α)) (k:Nat):lkc true v r k=some v:=(rfl)
theorem avi {α:Type} (v:α) (r:List (Nat×α)) (k:Nat):lkc false v r k=lk r k:=(rfl)
theorem ak7 {α:Type} (k:Nat):lk ([]:List (Nat×α)) k=none:=(rfl)
theorem agZ {α:Type} (t k:Nat) (v:α) (r:List (Nat×α)):lk ((t,v)::r) k=lkc (t == k) v r k:=by
 rw [lk]
 by_cases h:t=k
 ·subst h; simp [lkc]
 rw [if_neg h,beq_false_of_ne h]; rfl
attribute [go_sem] DX foots writes Wr.comp Rd.log Nc D9 Ql Jg Nh Ut Gv BF Ea vc iQ fB rP bad valOf ak7 agZ avh avi St.begin Rz Yo St.done bK St.slot ofValue Dn yw FQ A8 DY
 aaX SA SB tK jf KA ahR AV.c AV.agg Wr.put AU.cells AU.solid AC.solid
 fin fA yB Ry ahV Ib AB lK jg xG o9 GH RV.cells D.scalar iF Jd Qb KE getD_some getD_none
 splice J4 XA glb ahl Gi oM zU nT wW kF iH wV wU firsts iY jY wX zO chunks lY bound Kz kZ MW
 Dx bY jL oW ug tN FB Hy isConst Qc bytesOf Eo lZ
end Go.dR
set_option linter.unusedVariables false
set_option linter.unusedSimpArgs false
namespace Go.dR
def acR (bs:List (Nat×Nat)):Cap->Option Cap
 | .ref b off=>(lk bs b).map λb'=> .ref b' off
 | .dM l off=>some (.dM l off)
def Qj (bs:List (Nat×Nat)):List Cap->Option (List Cap)
 | []=>some []
 | x::r=>match acR bs x,Qj bs r with
  | some y,some s=>some (y::s)
  | _,_=>none
def mAC (bs ks:List (Nat×Nat)) (lb:Nat->Option fE):AC->Option AC
 | .undef=>some .undef
 | .d x=>some (.d x)
 | .dF=>some .dF
 | .own k=>match lk ks k with
  | some k'=>some (.own k')
  | none=>match lb k with
   | some (.shared x)=>some (.d x)
   | some .dead=>some .undef
   | _=>none
 | .ref b off=>(lk bs b).map λb'=> .ref b' off
 | .iE k i off=>match lk ks k with
  | some k'=>some (.iE k' i off)
  | none=>match lb k with
   | some (.shared x)=>some (.dM (x.nth i) off)
   | some .dead=>some .undef
   | _=>none
 | .dM l off=>some (.dM l off)
 | .clo f caps=>(Qj bs caps).map λc=> .clo f c
 | .Yw l=>some (.Yw l)
 | .X8 x=>some (.X8 x)
 | .glob g off=>some (.glob g off)
 | .xg b off n s=>(lk bs b).map λb'=> .xg b' off n s
 | .bnd f l=>some (.bnd f l)
def Ur (bs ks:List (Nat×Nat)) (lb:Nat->Option fE):List AC->Option (List AC)
 | []=>some []
 | x::r=>match mAC bs ks lb x,Ur bs ks lb r with
  | some y,some s=>some (y::s)
  | _,_=>none
def mAU (bs ks:List (Nat×Nat)) (lb:Nat->Option fE):AU->Option AU
 | .c x=>(mAC bs ks lb x).map .c
 | .agg l=>(Ur bs ks lb l).map .agg
def mSl (bs ks:List (Nat×Nat)) (st:St):List Nat->Option (List (Nat×AV))
 | []=>some []
 | t::r=>match lk st.sl t,mSl bs ks st r with
  | some (.u x),some s=>match mAU bs ks (lk st.lb) x with
   | some y=>some ((t,.u y)::s)
   | none=>none
  | _,_=>none
def mBx (bs ks:List (Nat×Nat)) (st:St):List (Nat×Nat)->Option (List (Nat×List AC))
 | []=>some []
 | (b,b')::r=>match lk st.bx b,mBx bs ks st r with
  | some cs,some s=>match Ur bs ks (lk st.lb) cs with
   | some y=>some ((b',y)::s)
   | none=>none
  | _,_=>none
def Nb (ks:List (Nat×Nat)):fE->Option fE
 | .dead=>some .dead
 | .owned x=>some (.owned x)
 | .shared x=>some (.shared x)
 | .deep x=>some (.deep x)
 | .set (.keys x)=>some (.set (.keys x))
 | .set (.tab _)=>none
theorem lD {ks:List (Nat×Nat)} {l x:fE} (h:Nb ks l=some x):x=l/\∀ y,l≠ .set (.tab y):=by
 rcases l with _ | _ | _ | _ | M
 ·exact ⟨(Option.some.inj h).symm,λ_ e=>by cases e⟩
 ·exact ⟨(Option.some.inj h).symm,λ_ e=>by cases e⟩
 ·exact ⟨(Option.some.inj h).symm,λ_ e=>by cases e⟩
 ·exact ⟨(Option.some.inj h).symm,λ_ e=>by cases e⟩
 cases M with
 | keys x=>exact ⟨(Option.some.inj h).symm,λ_ e=>by cases e⟩
 | tab l=>cases h
def ZB (ks:List (Nat×Nat)) (st:St):List (Nat×Nat)->Option (List (Nat×fE))
 | []=>some []
 | (k,k')::r=>match lk st.lb k,ZB ks st r with
  | some l,some s=>match Nb ks l with
   | some l'=>some ((k',l')::s)
   | none=>none
  | _,_=>none
def mLb (st:St) (ks:List (Nat×Nat)):Option (List (Nat×fE)):=ZB ks st ks
def nD (l:List (Nat×Nat)):Prop:=(l.map (·.1)).Nodup/\(l.map (·.2)).Nodup
def mAV (bs ks:List (Nat×Nat)) (lb:Nat->Option fE):AV->Option AV
 | .u x=>(mAU bs ks lb x).map .u
 | _=>none
def Ag (bs ks:List (Nat×Nat)) (lb:Nat->Option fE):List AV->Prop
 | []=>True
 | v::r=>mAV bs ks lb v=some v/\Ag bs ks lb r
theorem DF {bs ks:List (Nat×Nat)} {lb:Nat->Option fE}:∀ {l:List AV},Ag bs ks lb l->∀ v∈l,mAV bs ks lb v=some v
 | [],_,v,h=>by cases h
 | x::r,h,v,hv=>by
  rcases List.mem_cons.1 hv with rfl | hv
  ·exact h.1
  exact DF h.2 v hv
def View (ts:List Nat) (bs ks:List (Nat×Nat)) (st st':St):Prop:=
 nD bs/\nD ks/\mSl bs ks st ts=some st'.sl/\mBx bs ks st bs=some st'.bx/\mLb st ks=some st'.lb
def rk (l:List (Nat×Nat)) (b:Nat):Option Nat:=lk (l.map λp=>(p.2,p.1)) b
theorem acT {α:Type} {l:List (Nat×α)} {a:Nat} {b:α} (h:lk l a=some b):(a,b)∈l:=by
 induction l with
 | nil=>cases h
 | cons p r ih=>
  obtain ⟨x,y⟩:=p
  simp only [lk] at h
  split at h
  ·rename_i e; subst e; obtain rfl:=Option.some.inj h; simp
  exact List.mem_cons_of_mem _ (ih h)
theorem acP {α:Type} {l:List (Nat×α)} {a:Nat} {b:α} (hn:(l.map (·.1)).Nodup) (h:(a,b)∈l):lk l a=some b:=by
 induction l with
 | nil=>cases h
 | cons p r ih=>
  obtain ⟨x,y⟩:=p
  simp only [List.map_cons,List.nodup_cons] at hn
  simp only [lk]
  rcases List.mem_cons.1 h with e | h
  ·cases e; rw [if_pos rfl]
  have:x≠a:=by
   rintro rfl
   exact hn.1 (List.mem_map.2 ⟨_,h,rfl⟩)
  rw [if_neg this]; exact ih hn.2 h
theorem nX {l:List (Nat×Nat)} (h:nD l) {a b:Nat}:lk l a=some b↔rk l b=some a:=by
 have hs:((l.map λp=>(p.2,p.1)).map (·.1)).Nodup:=by simpa [List.map_map,Function.comp_def] using h.2
 refine ⟨λe=>acP hs (List.mem_map.2 ⟨_,acT e,rfl⟩),λe=> ?_⟩
 obtain ⟨p,hp,e2⟩:=List.mem_map.1 (acT e)
 cases p; cases e2
 exact acP h.1 hp
theorem acU {bs ks:List (Nat×Nat)} {st:St}:∀ {ts:List Nat} {s:List (Nat×AV)},mSl bs ks st ts=some s->∀ t v,lk s t=some v->∃ x y,lk st.sl t=some (.u x)/\mAU bs ks (lk st.lb) x=some y/\v= .u y
 | [],s,h,t,v,hv=>by simp only [mSl,Option.some.injEq] at h; subst h; cases hv
 | t0::r,s,h,t,v,hv=>by
  simp only [mSl] at h
  split at h
  ·rename_i x s' h1 h2
   split at h
   ·rename_i y hy
    obtain rfl:=Option.some.inj h
    simp only [lk] at hv
    split at hv
    ·rename_i e; subst e; obtain rfl:=Option.some.inj hv
     exact ⟨x,y,h1,hy,rfl⟩
    exact acU h2 t v hv
   cases h
  cases h
theorem Uu {bs ks:List (Nat×Nat)} {st:St}:∀ {l:List (Nat×Nat)} {s:List (Nat×List AC)},mBx bs ks st l=some s->∀ b',
 (∀ cs',lk s b'=some cs'->∃ b cs,rk l b'=some b/\lk st.bx b=some cs/\Ur bs ks (lk st.lb) cs=some cs')/\(lk s b'=none->rk l b'=none)
 | [],s,h,b'=>by simp only [mBx,Option.some.injEq] at h; subst h; exact ⟨λ_ h=>(by cases h),λ_=>rfl⟩
 | (b0,b1)::r,s,h,b'=>by
  simp only [mBx] at h
  split at h
  ·rename_i cs s' h1 h2
   split at h
   ·rename_i y hy
    obtain rfl:=Option.some.inj h
    simp only [lk,rk,List.map_cons]
    split
    ·refine ⟨λcs' e=> ?_,λe=>(by cases e)⟩
     obtain rfl:=Option.some.inj e
     exact ⟨b0,cs,rfl,h1,hy⟩
    exact Uu h2 b'
   cases h
  cases h
theorem XB {ks:List (Nat×Nat)} {st:St}:∀ {l:List (Nat×Nat)} {s:List (Nat×fE)},ZB ks st l=some s->∀ k',
 (∀ x,lk s k'=some x->∃ k y,rk l k'=some k/\lk st.lb k=some y/\Nb ks y=some x)/\(∀ k,rk l k'=some k->∃ y x,lk st.lb k=some y/\Nb ks y=some x/\lk s k'=some x)
 | [],s,h,b'=>by simp only [ZB,Option.some.injEq] at h; subst h; exact ⟨λ_ h=>(by cases h),λk h=>(by cases h)⟩
 | (b0,b1)::r,s,h,b'=>by
  simp only [ZB] at h
  split at h
  ·rename_i cs s' h1 h2
   split at h
   ·rename_i l' h3
    obtain rfl:=Option.some.inj h
    simp only [lk,rk,List.map_cons]
    split
    ·refine ⟨λcs' e=> ?_,λk e=> ?_⟩
     ·obtain rfl:=Option.some.inj e
      exact ⟨b0,cs,rfl,h1,h3⟩
     obtain rfl:=Option.some.inj e
     exact ⟨cs,l',h1,h3,rfl⟩
    exact XB h2 b'
   cases h
  cases h
theorem BG {st:St} {ks:List (Nat×Nat)} {s:List (Nat×fE)} (h:mLb st ks=some s):∀ k',
 (∀ x,lk s k'=some x->∃ k y,rk ks k'=some k/\lk st.lb k=some y/\Nb ks y=some x)/\(∀ k,rk ks k'=some k->∃ y x,lk st.lb k=some y/\Nb ks y=some x/\lk s k'=some x):=XB h
theorem Xz {ks:List (Nat×Nat)} {y x:fE} (h:Nb ks y=some x):od (some x)=od (some y):=by
 obtain ⟨rfl,_⟩:=lD h; rfl
section
variable {cx:Cx} {st st':St} {m:Mp} {a:Act} {w:World} {ts:List Nat} {bs ks:List (Nat×Nat)}
def Mp.view (m:Mp) (bs ks:List (Nat×Nat)):Mp:=⟨λk=>(rk ks k).bind m.own,λb=>(rk bs b).bind m.box,λk j=>(rk ks k).bind λq=>m.inn q j,λk=>(rk ks k).bind m.mp⟩
theorem abl {B:Nat} (h:fP cx m B):fP cx (m.view bs ks) B:=by
 refine ⟨h.1,λk=> ?_,λb=> ?_,λk j=> ?_⟩
 ·simp only [Mp.view]
  cases rk ks k with
  | none=>simp
  | some k0=>exact h.2.1 k0
 ·simp only [Mp.view]
  cases rk bs b with
  | none=>simp
  | some b0=>exact h.2.2.1 b0
 simp only [Mp.view]
 cases rk ks k with
 | none=>simp
 | some k0=>exact h.2.2.2 k0 j
theorem jZ:Ext w w (fP cx m) (fP cx (m.view bs ks)):=⟨Nat.le_refl _,λ_ _ _=>rfl,λ_ _ h=>abl h⟩
theorem YW (hb:nD bs) {x y:Cap} {v:Value} (h:acR bs x=some y) (hr:Dj cx m w x v):Dj cx (m.view bs ks) w y v:=by
 cases x with
 | ref b off=>
  simp only [acR,Option.map_eq_some_iff] at h
  obtain ⟨b',h1,rfl⟩:=h
  obtain ⟨B,h2,h3⟩:=hr
  exact ⟨B,by simp [Mp.view,(nX hb).1 h1,h2],h3⟩
 | dM l off=>
  obtain rfl:=Option.some.inj h
  exact Ptr.ext jZ hr
theorem FZ (hb:nD bs):∀ {l r:List Cap},Qj bs l=some r->r.length=l.length/\∀ i,i<l.length->acR bs (l.getD i (.ref 0 0))=some (r.getD i (.ref 0 0))
 | [],r,h=>by obtain rfl:=Option.some.inj h; exact ⟨rfl,λi hi=>absurd hi (by simp)⟩
 | x::l,r,h=>by
  simp only [Qj] at h
  split at h
  ·rename_i y s h1 h2
   obtain rfl:=Option.some.inj h
   obtain ⟨g1,g2⟩:=FZ hb h2
   refine ⟨by simp [g1],λi hi=> ?_⟩
   cases i with
   | zero=>simpa using h1
   | succ i=>simpa using g2 i (by simpa using hi)
  cases h
theorem FY (hb:nD bs) (hk:nD ks) (hl:mLb st ks=some st'.lb) {x y:AC} {v:Value} (h:mAC bs ks (lk st.lb) x=some y) (hr:fD cx m w (lk st.lb) x v) :
 fD cx (m.view bs ks) w (lk st'.lb) y v:=by
 have hown:∀ k k',lk ks k=some k'->(∃ y x,lk st.lb k=some y/\Nb ks y=some x/\lk st'.lb k'=some x)/\(m.view bs ks).own k'=m.own k/\(m.view bs ks).mp k'=m.mp k:=by
  intro k k' e
  have e':=(nX hk).1 e
  exact ⟨(BG hl k').2 k e',by simp [Mp.view,e'],by simp [Mp.view,e']⟩
 cases x with
 | undef=>obtain rfl:=Option.some.inj h; exact trivial
 | d x=>obtain rfl:=Option.some.inj h; exact RD.ext jZ hr
 | dF=>obtain rfl:=Option.some.inj h; exact hr
 | own k=>
  simp only [mAC] at h
  cases e:lk ks k with
  | some k'=>
   simp only [e] at h
   obtain rfl:=Option.some.inj h
   obtain ⟨⟨L,L',f1,f2,f3⟩,e2,e3⟩:=hown k k' e
   simp only [fD,f1] at hr
   simp only [fD,f3]
   cases L with
   | dead=>obtain rfl:=(lD f2).1; exact hr
   | shared x=>obtain rfl:=(lD f2).1; exact ⟨hr.1,RD.ext jZ hr.2⟩
   | owned x=>obtain rfl:=(lD f2).1; simp only [e2]; exact hr
   | deep x=>obtain rfl:=(lD f2).1; simp only [e2]; exact hr
   | set x=>obtain rfl:=(lD f2).1; simp only [e3]; exact hr
  | none=>
   simp only [e] at h
   simp only [fD] at hr
   cases hL:lk st.lb k with
   | none=>rw [hL] at hr; exact hr.elim
   | some L=>
    rw [hL] at hr h
    cases L with
    | dead=>obtain rfl:=Option.some.inj h; exact trivial
    | shared x=>obtain rfl:=Option.some.inj h; exact RD.ext jZ hr.2
    | owned x=>cases h
    | deep x=>cases h
    | set x=>cases h
 | ref b off=>
  simp only [mAC,Option.map_eq_some_iff] at h
  obtain ⟨b',h1,rfl⟩:=h
  obtain ⟨B,h2,h3⟩:=hr
  exact ⟨B,by simp [Mp.view,(nX hb).1 h1,h2],h3⟩
 | iE k i off=>
  simp only [mAC] at h
  cases e:lk ks k with
  | some k'=>
   simp only [e] at h
   obtain rfl:=Option.some.inj h
   obtain ⟨⟨L,L',f1,f2,f3⟩,e2,e3⟩:=hown k k' e
   simp only [fD,f1] at hr
   simp only [fD,f3]
   cases L with
   | dead=>obtain rfl:=(lD f2).1; exact hr
   | shared x=>obtain rfl:=(lD f2).1; exact ⟨hr.1,hr.2.1,Ptr.ext jZ hr.2.2⟩
   | owned x=>obtain rfl:=(lD f2).1; simp only [e2]; exact hr
   | deep x=>obtain rfl:=(lD f2).1; simp only [e2]; exact hr
   | set x=>exact hr.elim
  | none=>
   simp only [e] at h
   simp only [fD] at hr
   cases hL:lk st.lb k with
   | none=>rw [hL] at hr; exact hr.elim
   | some L=>
    rw [hL] at hr h
    cases L with
    | dead=>obtain rfl:=Option.some.inj h; exact trivial
    | shared x=>obtain rfl:=Option.some.inj h; exact Ptr.ext jZ hr.2.2
    | owned x=>cases h
    | deep x=>cases h
    | set x=>cases h
 | dM l off=>obtain rfl:=Option.some.inj h; exact Ptr.ext jZ hr
 | clo f caps=>
  simp only [mAC,Option.map_eq_some_iff] at h
  obtain ⟨c',h1,rfl⟩:=h
  obtain ⟨vs,rfl,hsz,hc⟩:=hr
  obtain ⟨g1,g2⟩:=FZ hb h1
  refine ⟨vs,rfl,by rw [g1]; exact hsz,λi hi=> ?_⟩
  rw [g1] at hi
  obtain ⟨u,hu,hr⟩:=hc i hi
  exact ⟨u,hu,YW hb (g2 i hi) hr⟩
 | Yw l=>obtain rfl:=Option.some.inj h; exact hr
 | X8 x=>obtain rfl:=Option.some.inj h; exact ⟨hr.1,hr.2.1.ext jZ,hr.2.2⟩
 | glob g off=>obtain rfl:=Option.some.inj h; exact hr
 | xg b off n s=>
  simp only [mAC,Option.map_eq_some_iff] at h
  obtain ⟨b',h1,rfl⟩:=h
  obtain ⟨B,cap,h2,h3,h4⟩:=hr
  exact ⟨B,cap,by simp [Mp.view,(nX hb).1 h1,h2],h3,h4⟩
 | bnd f l=>
  obtain rfl:=Option.some.inj h
  obtain ⟨us,rfl,hsz,hc⟩:=hr
  refine ⟨us,rfl,hsz,λi hi=> ?_⟩
  obtain ⟨u,hu,hr⟩:=hc i hi
  exact ⟨u,hu,hr.ext jZ⟩
theorem Gu {lb:Nat->Option fE}:∀ {l r:List AC},Ur bs ks lb l=some r->r.length=l.length/\∀ i,i<l.length->mAC bs ks lb (l.getD i .undef)=some (r.getD i .undef)
 | [],r,h=>by obtain rfl:=Option.some.inj h; exact ⟨rfl,λi hi=>absurd hi (by simp)⟩
 | x::l,r,h=>by
  simp only [Ur] at h
  split at h
  ·rename_i y s h1 h2
   obtain rfl:=Option.some.inj h
   obtain ⟨g1,g2⟩:=Gu h2
   refine ⟨by simp [g1],λi hi=> ?_⟩
   cases i with
   | zero=>simpa using h1
   | succ i=>simpa using g2 i (by simpa using hi)
  cases h
theorem Xi (hb:nD bs) (hk:nD ks) (hl:mLb st ks=some st'.lb) {x y:AU} {v:Value} (h2:mAU bs ks (lk st.lb) x=some y) (r2:RU cx m w (lk st.lb) x v):RU cx (m.view bs ks) w (lk st'.lb) y v:=by
 cases x with
 | c x=>
  simp only [mAU,Option.map_eq_some_iff] at h2
  obtain ⟨z,h2,rfl⟩:=h2
  exact FY hb hk hl h2 r2
 | agg l=>
  simp only [mAU,Option.map_eq_some_iff] at h2
  obtain ⟨z,h2,rfl⟩:=h2
  obtain ⟨vs,e,hsz,hc⟩:=r2
  obtain ⟨g1,g2⟩:=Gu h2
  refine ⟨vs,e,by rw [g1]; exact hsz,λi hi=> ?_⟩
  rw [g1] at hi
  obtain ⟨u,hu,hr⟩:=hc i hi
  exact ⟨u,hu,FY hb hk hl (g2 i hi) hr⟩
theorem Rel.view (R : Rel cx st m a w) (hv : View ts bs ks st st') (alJ : Ag bs ks (lk st.lb) (cx.fG.map (·.1))) : Rel cx st' (m.view bs ks) a w := by
  obtain ⟨hb, hk, v1, v2, v3⟩ := hv
  refine { defers := R.defers, recs := R.recs, nt := R.nt, env := R.env, size := R.size, old := R.old, s0 := R.s0, slots := λt v h => ?_, fG := λp hp => ?_, boxes := λb cs h => ?_, gI := λb h => ?_, nG := λk x h => ?_, gX := λk h => ?_, bn := ?_, sets := ?_,
           dK := λk B h => ?_, gu := λb B h => ?_, je := λk k' B h h' => ?_, kS := λb b' B h h' => ?_, sU := λk b B h h' => ?_ }
  · obtain ⟨x, y, h1, h2, rfl⟩ := acU v1 t v h
    obtain ⟨r1, r2⟩ := R.slots t _ h1
    exact ⟨r1, Xi hb hk v3 h2 r2⟩
  · have he := DF alJ p.1 (List.mem_map.2 ⟨p, hp, rfl⟩)
    have hr := R.fG p hp
    revert he hr
    generalize p.1 = v
    intro he hr
    cases v with
    | u x =>
      simp only [mAV, Option.map_eq_some_iff] at he
      obtain ⟨y, h2, e⟩ := he
      cases e
      exact Xi hb hk v3 h2 hr
    | _ => cases he
  · obtain ⟨b0, cs0, h1, h2, h3⟩ := (Uu v2 b).1 cs h
    obtain ⟨B, c, T, e1, e2, e3, e4⟩ := R.boxes b0 cs0 h2
    obtain ⟨g1, g2⟩ := Gu h3
    refine ⟨B, c, T, by simp [Mp.view, h1, e1], e2, by rw [g1]; exact e3, λj hj => ?_⟩
    rw [g1] at hj
    obtain ⟨u, hu, hr⟩ := e4 j hj
    exact ⟨u, hu, FY hb hk v3 (g2 j hj) hr⟩
  · simp [Mp.view, (Uu v2 b).2 h]
  · cases hL : lk st'.lb k with
    | none => rw [hL] at h; cases h
    | some L =>
      rw [hL] at h
      obtain ⟨k0, y, h1, h2, h3⟩ := (BG v3 k).1 _ hL
      obtain ⟨r1, r2⟩ := R.nG k0 x (by rw [h2, <- Xz h3]; exact h)
      refine ⟨r1, λB hB => ?_⟩
      simp only [Mp.view, h1, Option.bind_some] at hB
      exact Row.ext jZ rfl (r2 B hB)
  · simp only [Mp.view]
    cases e : rk ks k with
    | none => rfl
    | some k0 =>
      obtain ⟨y, x, e1, e2, e3⟩ := (BG v3 k).2 k0 e
      exact R.gX k0 (by rw [e1, <- Xz e2, <- e3]; exact h)
  · have hin : ∀ k j B, (m.view bs ks).inn k j = some B -> ∃ k0, rk ks k = some k0 /\ m.inn k0 j = some B := λk j B h => by
      simpa only [Mp.view, Option.bind_eq_some_iff] using h
    refine ⟨λk x h => ?_, λk j B h => ?_, λk j B h => ?_, λk j k' j' B h h' => ?_, λk j k' B h h' => ?_, λk j b B h h' => ?_⟩
    · obtain ⟨k0, y, h1, h2, h3⟩ := (BG v3 k).1 _ h
      obtain rfl := (lD h3).1
      obtain ⟨g1, g2, g3⟩ := R.bn.ok k0 x h2
      have e1 : (m.view bs ks).own k = m.own k0 := by simp [Mp.view, h1]
      have e2 : ∀ j, (m.view bs ks).inn k j = m.inn k0 j := λj => by simp [Mp.view, h1]
      refine ⟨g1, g2, λj hj => ⟨(g3 j hj).1, ?_⟩⟩
      rcases (g3 j hj).2 with ⟨q1, q2⟩ | ⟨q1, ⟨B, u, q2, q3, q4⟩, q5⟩
      · exact .inl ⟨q1, by rw [e2]; exact q2⟩
      exact .inr ⟨q1, ⟨B, u, by rw [e1]; exact q2, q3, by rw [e2]; exact q4⟩, λB' h' => Row.ext jZ rfl (q5 B' (by rw [<- e2]; exact h'))⟩
    · obtain ⟨k0, e, h⟩ := hin k j B h
      obtain ⟨x, q1, q2⟩ := R.bn.only k0 j B h
      obtain ⟨y, x', f1, f2, f3⟩ := (BG v3 k).2 k0 e
      rw [q1] at f1
      obtain rfl := Option.some.inj f1
      obtain rfl := Option.some.inj f2
      exact ⟨x, f3, q2⟩
    · obtain ⟨k0, _, h⟩ := hin k j B h
      exact R.bn.blk _ _ _ h
    · obtain ⟨k0, e, h⟩ := hin k j B h
      obtain ⟨k1, e', h'⟩ := hin k' j' B h'
      obtain ⟨rfl, rfl⟩ := R.bn.inj _ _ _ _ _ h h'
      have := (nX hk).2 e
      rw [(nX hk).2 e'] at this
      exact ⟨(Option.some.inj this).symm, rfl⟩
    · obtain ⟨k0, e, h⟩ := hin k j B h
      simp only [Mp.view, Option.bind_eq_some_iff] at h'
      obtain ⟨k1, _, h'⟩ := h'
      exact R.bn.own _ _ _ _ h h'
    obtain ⟨k0, e, h⟩ := hin k j B h
    simp only [Mp.view, Option.bind_eq_some_iff] at h'
    obtain ⟨b0, _, h'⟩ := h'
    exact R.bn.box _ _ _ _ h h'
  · refine ⟨λk x h => ?_, λk B h => ?_, λk k' B h h' => ?_⟩
    · obtain ⟨k0, y, h1, h2, h3⟩ := (BG v3 k).1 _ h
      obtain ⟨e0, e1⟩ := lD h3
      subst e0
      obtain ⟨B, g1, g2⟩ := R.sets.ok k0 x h2
      refine ⟨B, by simp [Mp.view, h1, g1], ?_⟩
      cases x with
      | keys y => exact g2
      | tab y => exact absurd rfl (e1 y)
    · simp only [Mp.view, Option.bind_eq_some_iff] at h
      obtain ⟨k0, _, h⟩ := h
      exact R.sets.blk _ _ h
    simp only [Mp.view, Option.bind_eq_some_iff] at h h'
    obtain ⟨k0, e, h⟩ := h
    obtain ⟨k1, e', h'⟩ := h'
    obtain rfl := R.sets.inj _ _ _ h h'
    have := (nX hk).2 e
    rw [(nX hk).2 e'] at this
    exact (Option.some.inj this).symm
  · simp only [Mp.view, Option.bind_eq_some_iff] at h
    obtain ⟨k0, _, h⟩ := h
    exact R.dK _ _ h
  · simp only [Mp.view, Option.bind_eq_some_iff] at h
    obtain ⟨k0, _, h⟩ := h
    exact R.gu _ _ h
  · simp only [Mp.view, Option.bind_eq_some_iff] at h h'
    obtain ⟨k0, e, h⟩ := h
    obtain ⟨k1, e', h'⟩ := h'
    obtain rfl := R.je _ _ _ h h'
    have := (nX hk).2 e
    rw [(nX hk).2 e'] at this
    exact (Option.some.inj this).symm
  · simp only [Mp.view, Option.bind_eq_some_iff] at h h'
    obtain ⟨k0, e, h⟩ := h
    obtain ⟨k1, e', h'⟩ := h'
    obtain rfl := R.kS _ _ _ h h'
    have := (nX hb).2 e
    rw [(nX hb).2 e'] at this
    exact (Option.some.inj this).symm
  simp only [Mp.view, Option.bind_eq_some_iff] at h h'
  obtain ⟨k0, _, h⟩ := h
  obtain ⟨b0, _, h'⟩ := h'
  exact R.sU _ _ _ h h'
def St.Ug (st:St) (t k s:Nat):St:=⟨(t,.c (.own k))::st.sl,st.bx,(k,.owned (.sl s 0 λ_=>[]))::st.lb⟩
end
section
variable {P:Program} {ty:iT} {tb:qj} {n:Nat} {draw:List Oper->St->Prop} {fin':Eu->St->Prop} {stop:List K->St->Prop} {k:List K} {st:St} {fG:List AV}
theorem Stop.loop (S:Stop P ty tb n draw fin' stop fG) {c:Code} {A:Type} (head:A->St) (inv:A->Prop) (rank:A->Nat) (a0:A) (h0:inv a0)
 (init:stop (.lp c::k) (head a0)->stop (.lp c::k) st)
 (round:∀ a,inv a->(∀ a',inv a'->rank a'<rank a->stop (.lp c::k) (head a'))->stop (.code c:: .lp c::k) (head a)):stop (.lp c::k) st:=by
 refine init ?_
 have key:∀ r a,rank a<=r->inv a->stop (.lp c::k) (head a):=by
  intro r
  induction r with
  | zero=>intro a hr hi; exact S.lp (round a hi (λa' hi' hlt=>by omega))
  | succ r ih=>intro a hr hi; exact S.lp (round a hi (λa' hi' hlt=>ih a' (by omega) hi'))
 exact key _ a0 (Nat.le_refl _) h0
end
attribute [go_sem] mAV Ag acR Qj mAC Ur mAU mSl mBx mLb ZB Nb nD View
end Go.dR
set_option linter.unusedVariables false
set_option linter.unusedSimpArgs false
namespace Go.dR
inductive oH:D->D->Prop
 | refl (d):oH d d
 | nil (s s' g g'):oH (.sl s 0 g) (.sl s' 0 g')
 | sl (s n g g') (hl:∀ i,i<n->(g i).length=(g' i).length) (he:∀ i j,i<n->j<s->oH ((g i).getD j .undef) ((g' i).getD j .undef)):oH (.sl s n g) (.sl s n g')
 | rO (l l'):oH (.pt false l) (.pt false l')
 | Qd (s g):oH .nl (.sl s 0 g)
 | pt (b l l') (hl:l.length=l'.length) (he:∀ j,j<l.length->oH (l.getD j .undef) (l'.getD j .undef)):oH (.pt b l) (.pt b l')
theorem RD.eqv {w:World} {S:Nat->Prop} {d d':D} {v:Value} (h:oH d d') (hr:RD w S d v):RD w S d' v:=by
 induction h generalizing v with
 | refl d=>exact hr
 | nil s s' g g'=>
  cases hr with
  | sl0 s g ao cap=>exact .sl0 _ _ _ _
  | sl s n g B o cap f hn=>omega
 | sl s n g g' hl he ih=>
  cases hr with
  | sl0 s g ao cap=>exact .sl0 _ _ _ _
  | sl s n g B o cap f hn hcap hB hS hl' hc hr=>
   exact .sl s n g' B o cap f hn hcap hB hS (λi hi=>by rw [<- hl i hi]; exact hl' i hi) hc (λi j hi hj=>ih i j hi hj (hr i j hi hj))
 | rO l l'=>cases hr; exact .rO l'
 | Qd s g=>cases hr; exact .sl0 _ _ _ _
 | pt b l l' hl he ih=>
  cases hr with
  | rO=>exact .rO l'
  | ptr l B o f hB hS hc hr=>exact .ptr l' B o f hB hS (λj hj=>hc j (by rw [hl]; exact hj)) (λj hj=>ih j (by rw [hl]; exact hj) (hr j (by rw [hl]; exact hj)))
def ou (x y:D):Prop:=
 x.cu=true/\y.cu=true/\x.stride=y.stride/\x.len=y.len/\∀ i,i<x.len->(x.nth i).length=(y.nth i).length/\∀ j,oH ((x.nth i).getD j .undef) ((y.nth i).getD j .undef)
theorem ou.refl {x:D} (h:x.cu=true):ou x x:=⟨h,h,rfl,rfl,λ_ _=>⟨rfl,λ_=> .refl _⟩⟩
theorem ou.eqv {x y:D} (h:ou x y):oH x y:=by
 obtain ⟨h1,h2,h3,h4,h5⟩:=h
 rw [D.eta h1,D.eta h2, <- h3, <- h4]
 exact .sl _ _ _ _ (λi hi=>(h5 i hi).1) (λi j hi _=>(h5 i hi).2 j)
theorem ou.acE {x y:D} (h1:x.cu=true) (h2:y.cu=true) (h3:x.stride=y.stride) (h4:x.len=y.len) (h5:∀ i,i<x.len->x.nth i=y.nth i):ou x y:=
 ⟨h1,h2,h3,h4,λi hi=>by rw [h5 i hi]; exact ⟨rfl,λ_=> .refl _⟩⟩
theorem Row.eqv {w:World} {S:Nat->Prop} {B:Nat} {x y:D} (h:ou x y) (hr:Row w S B x):Row w S B y:=by
 obtain ⟨c,T,hc,hs,hx⟩:=hr
 obtain ⟨h1,h2,h3,h4,h5⟩:=h
 refine ⟨c,T,hc,h2,λi hi=> ?_⟩
 rw [<- h4] at hi
 obtain ⟨g1,g2⟩:=hx i hi
 refine ⟨by rw [<- (h5 i hi).1,g1,h3],λj hj=> ?_⟩
 rw [<- h3] at hj
 obtain ⟨u,hu,hd⟩:=g2 j hj
 exact ⟨u,by rw [<- h3]; exact hu,hd.eqv ((h5 i hi).2 j)⟩
theorem nN.eqv {w:World} {o:Option Nat} {x y:D} {v:Value} (h:ou x y) (hr:nN w o x v):nN w o y v:=by
 obtain ⟨h1,h2,h3,h4,h5⟩:=h
 cases o with
 | none=>exact ⟨hr.1,by rw [<- h4]; exact hr.2⟩
 | some B=>
  obtain ⟨cap,c,T,e1,e2,e3,e4⟩:=hr
  exact ⟨cap,c,T,by rw [<- h4]; exact e1,e2,by rw [<- h3]; exact e3,by rw [<- h4]; exact e4⟩
def Oy (x y:D):Prop:=x.cu=true/\y.cu=true/\x.stride=y.stride/\x.len=y.len/\∀ i,i<x.len->(x.nth i).length=(y.nth i).length/\ou (yd x i) (yd y i)
theorem Oy.gK {x y:D} (h:Oy x y):ou x.gK y.gK:= .acE rfl rfl h.2.2.1 h.2.2.2.1 (λ_ _=>rfl)
theorem XY {d:D} {s:ByteArray}:(oH (.str s) d->d= .str s)/\(oH d (.str s)->d= .str s):=⟨λh=>by cases h; rfl,λh=>by cases h; rfl⟩
theorem Yr.eqv {w:World} {B:Nat} {x y:D} (h:Yr w B x) (e:ou x y):Yr w B y:=by
 obtain ⟨es,c,h1,h2,h3⟩:=h
 obtain ⟨e1,e2,e3,e4,e5⟩:=e
 refine ⟨es,c,h1,h2,λs=>(h3 s).trans ⟨λ⟨i,hi,hs⟩=>⟨i,by rw [<- e4]; exact hi,?_⟩,λ⟨i,hi,hs⟩=>⟨i,by rw [e4]; exact hi,?_⟩⟩⟩
 ·have:=(e5 i hi).2 0
  unfold yd at hs ⊢
  rw [hs] at this
  exact XY.1 this
 have:=(e5 i (by rw [e4]; exact hi)).2 0
 unfold yd at hs ⊢
 rw [hs] at this
 exact XY.2 this
def KD:AC->AC->Prop
 | .d x,.d y=>oH x y
 | .dF,.d y=>y.cu=true/\y.len=0
 | .dM l 0,.d y=>oH (.pt true l) y
 | .clo g [],.d y=>y= .fn g
 | a,b=>a=b
def BU:List AC->List AC->Prop
 | [],[]=>True
 | x::r,y::s=>KD x y/\BU r s
 | _,_=>False
def aeg:AV->AV->Prop
 | .u (.c x),.u (.c y)=>KD x y
 | .u (.agg l),.u (.agg r)=>BU l r
 | _,_=>False
def ajc:MD->MD->Prop
 | .keys x,.keys y=>ou x y
 | _,_=>False
def BQ:fE->fE->Prop
 | .owned x,.owned y=>ou x y
 | .deep x,.deep y=>Oy x y
 | .set x,.set y=>ajc x y
 | .shared x,.shared y=>y.cu=true/\oH x y
 | .dead,.dead=>True
 | _,_=>False
def Ll {α:Type} (R:α->α->Prop):List (Nat×α)->List (Nat×α)->Prop
 | [],[]=>True
 | (k,x)::r,(k',y)::s=>(k=k'/\R x y)/\Ll R r s
 | _,_=>False
theorem vP {α:Type} {R:α->α->Prop}:∀ {l l':List (Nat×α)},Ll R l l'->∀ k,(∀ y,lk l' k=some y->∃ x,lk l k=some x/\R x y)/\(∀ x,lk l k=some x->∃ y,lk l' k=some y/\R x y)
 | [],[],_,k=>⟨λ_ h=>(by cases h),λ_ h=>(by cases h)⟩
 | [],_::_,h,_=>h.elim
 | _::_,[],h,_=>h.elim
 | (a,x)::r,(b,y)::s,h,k=>by
  obtain ⟨⟨rfl,h1⟩,h2⟩:=h
  simp only [lk]
  by_cases e:a=k
  ·simp only [if_pos e]
   exact ⟨λy' hy=>⟨x,rfl,by obtain rfl:=Option.some.inj hy; exact h1⟩,λx' hx=>⟨y,rfl,by obtain rfl:=Option.some.inj hx; exact h1⟩⟩
  simp only [if_neg e]
  exact vP h2 k
theorem oH.nth {x y:D} (h:oH x y) {i:Nat} (hi:i<x.len):i<y.len/\x.stride=y.stride/\(x.nth i).length=(y.nth i).length/\∀ j,j<x.stride->oH ((x.nth i).getD j .undef) ((y.nth i).getD j .undef):=by
 cases h with
 | refl d=>exact ⟨hi,rfl,rfl,λ_ _=> .refl _⟩
 | nil s s' g g'=>exact absurd hi (by simp [D.len])
 | sl s n g g' hl he=>exact ⟨hi,rfl,hl i hi,λj hj=>he i j hi hj⟩
 | rO=>exact absurd hi (by simp [D.len])
 | Qd=>exact absurd hi (by simp [D.len])
 | pt=>exact absurd hi (by simp [D.len])
theorem Ptr.eqv {w:World} {S:Nat->Prop} {l r:List D} {off:Nat} {v:Value} (hl:l.length=r.length) (he:∀ j,j<l.length->oH (l.getD j .undef) (r.getD j .undef)) (h:Ptr w S l off v):Ptr w S r off v:=by
 obtain ⟨B,o,h1,h2,h3,h4⟩:=h
 refine ⟨B,o,h1,h2,h3,λj hj=> ?_⟩
 rw [<- hl] at hj
 obtain ⟨u,hu,hr⟩:=h4 j hj
 exact ⟨u,hu,hr.eqv (he j hj)⟩
section
variable {cx:Cx} {st st':St} {m:Mp} {a:Act} {w:World}
theorem zS {lb lb' : Nat -> Option fE} (hl : ∀ k x, lb k = some x -> ∃ y, lb' k = some y /\ BQ x y) {x y : AC} {v : Value} (h : KD x y) (hr : fD cx m w lb x v) : fD cx m w lb' y v := by
  cases x with
  | d x => cases y with
    | d y => exact RD.eqv h hr
    | _ => cases h
  | undef => cases h; exact hr
  | dF => cases y with
    | d y =>
      obtain ⟨h1, h2⟩ := h
      have hr : v = .slice none 0 0 := hr
      subst hr
      cases y with
      | sl s n g => obtain rfl : n = 0 := h2
                    exact RD.sl0 _ _ _ _
      | _ => cases h1
    | _ => first | (cases h; exact hr) | cases h
  | ref b off => cases h; exact hr
  | dM l off =>
    cases off with
    | zero => cases y with
      | d y => exact RD.eqv h (FX.2 hr)
      | _ => first | (cases h; done) | (cases h; exact hr)
    | succ o => cases h; exact hr
  | clo f caps =>
    cases caps with
    | nil => cases y with
      | d y => cases h; rw [MG hr]; exact RD.fn f
      | _ => first | (cases h; done) | (cases h; exact hr)
    | cons _ _ => cases h; exact hr
  | Yw l => cases h; exact hr
  | X8 x => cases h; exact hr
  | glob g off => cases h; exact hr
  | xg b off n s => cases h; exact hr
  | bnd f l => cases h; exact hr
  | own k =>
    cases h
    simp only [fD] at hr ⊢
    cases hk : lb k with
    | none => rw [hk] at hr; exact hr.elim
    | some L =>
      rw [hk] at hr
      obtain ⟨L', e1, e2⟩ := hl k L hk
      rw [e1]
      cases L <;> cases L' <;> first | exact e2.elim | skip
      · exact hr
      · exact nN.eqv e2 hr
      · exact ⟨e2.1, RD.eqv e2.2 hr.2⟩
      · exact nN.eqv (x := D.gK _) (y := D.gK _) e2.gK hr
      · exact hr
  | iE k i off =>
    cases h
    simp only [fD] at hr ⊢
    cases hk : lb k with
    | none => rw [hk] at hr; exact hr.elim
    | some L =>
      rw [hk] at hr
      obtain ⟨L', e1, e2⟩ := hl k L hk
      rw [e1]
      cases L <;> cases L' <;> first | exact e2.elim | skip
      · exact hr
      · obtain ⟨h1, h2, h3, h4, h5⟩ := e2
        exact ⟨by rw [<- h4]; exact hr.1, by rw [<- h3]; exact hr.2⟩
      · obtain ⟨g1, g2, g3⟩ := hr
        obtain ⟨n1, n2, n3, n4⟩ := e2.2.nth g1
        exact ⟨n1, by rw [<- n3, g2, n2], Ptr.eqv n3 (λj hj => n4 j (by omega)) g3⟩
      · obtain ⟨h1, h2, h3, h4, h5⟩ := e2
        exact ⟨by rw [<- h4]; exact hr.1, by rw [<- h3]; exact hr.2⟩
      exact hr
theorem yL:∀ {l r:List AC},BU l r->r.length=l.length/\∀ i,i<l.length->KD (l.getD i .undef) (r.getD i .undef)
 | [],[],_=>⟨rfl,λi hi=>absurd hi (by simp)⟩
 | [],_::_,h=>h.elim
 | _::_,[],h=>h.elim
 | x::l,y::r,h=>by
  obtain ⟨g1,g2⟩:=yL h.2
  refine ⟨by simp [g1],λi hi=> ?_⟩
  cases i with
  | zero=>simpa using h.1
  | succ i=>simpa using g2 i (by simpa using hi)
theorem H6 (x:AC):KD x x:=by
 cases x<;>first | exact oH.refl _ | rfl | (rename_i l off; cases off<;>rfl)
theorem Px {lb lb':Nat->Option fE} (hl:∀ k x,lb k=some x->∃ y,lb' k=some y/\BQ x y) {x:AV} {v:Value} (hr:RA cx m w lb x v):RA cx m w lb' x v:=by
 have hu:∀ {x:AU} {v:Value},RU cx m w lb x v->RU cx m w lb' x v:=fun {x v} hr=>by
  cases x with
  | c x=>exact zS hl (H6 x) hr
  | agg l=>
   obtain ⟨vs,e,hsz,hc⟩:=hr
   refine ⟨vs,e,hsz,λi hi=> ?_⟩
   obtain ⟨u,hu,hr⟩:=hc i hi
   exact ⟨u,hu,zS hl (H6 _) hr⟩
 cases x with
 | u x=>exact hu hr
 | Jy l=>
  obtain ⟨vs,e,hsz,hc⟩:=hr
  refine ⟨vs,e,hsz,λi hi=> ?_⟩
  obtain ⟨u,h1,h2⟩:=hc i hi
  exact ⟨u,h1,hu h2⟩
 | cnd b x=>exact ⟨λh=>hu (hr.1 h),hr.2⟩
theorem Rel.eqv (R : Rel cx st m a w) (h1 : Ll aeg st.sl st'.sl) (h2 : Ll BU st.bx st'.bx) (h3 : Ll BQ st.lb st'.lb) : Rel cx st' m a w := by
  have hl : ∀ k x, lk st.lb k = some x -> ∃ y, lk st'.lb k = some y /\ BQ x y := λk => (vP h3 k).2
  refine { defers := R.defers, recs := R.recs, nt := R.nt, env := R.env, size := R.size, old := R.old, s0 := R.s0, slots := λt v h => ?_, fG := λp hp => Px hl (R.fG p hp), boxes := λb cs h => ?_, gI := λb h => ?_, nG := λk x h => ?_, gX := λk h => ?_, bn := ?_, sets := ?_,
           dK := R.dK, gu := R.gu, je := R.je, kS := R.kS, sU := R.sU }
  · obtain ⟨u, hu, he⟩ := (vP h1 t).1 v h
    obtain ⟨r1, r2⟩ := R.slots t u hu
    refine ⟨r1, ?_⟩
    cases u with
    | u x =>
      cases v with
      | u y =>
        cases x with
        | c x => cases y with
          | c y => exact zS hl he r2
          | agg l => exact he.elim
        | agg l => cases y with
          | c y => exact he.elim
          | agg r =>
            obtain ⟨vs, e, hsz, hc⟩ := r2
            obtain ⟨g1, g2⟩ := yL he
            refine ⟨vs, e, by rw [g1]; exact hsz, λi hi => ?_⟩
            rw [g1] at hi
            obtain ⟨z, hz, hr⟩ := hc i hi
            exact ⟨z, hz, zS hl (g2 i hi) hr⟩
      | _ => cases x <;> exact he.elim
    | _ => exact he.elim
  · obtain ⟨cs0, hc, he⟩ := (vP h2 b).1 cs h
    obtain ⟨B, c, T, e1, e2, e3, e4⟩ := R.boxes b cs0 hc
    obtain ⟨g1, g2⟩ := yL he
    refine ⟨B, c, T, e1, e2, by rw [g1]; exact e3, λj hj => ?_⟩
    rw [g1] at hj
    obtain ⟨u, hu, hr⟩ := e4 j hj
    exact ⟨u, hu, zS hl (g2 j hj) hr⟩
  · refine R.gI b ?_
    cases hb : lk st.bx b with
    | none => rfl
    | some cs =>
      obtain ⟨y, hy, _⟩ := (vP h2 b).2 cs hb
      rw [h] at hy; cases hy
  · cases hL' : lk st'.lb k with
    | none => rw [hL'] at h; cases h
    | some L' =>
      rw [hL'] at h
      obtain ⟨L, hL, he⟩ := (vP h3 k).1 _ hL'
      have hE : ∃ y, od (some L) = some y /\ ou y x := by
        cases L <;> cases L' <;> first | exact he.elim | (obtain rfl := Option.some.inj h; exact ⟨_, rfl, he⟩) | (obtain rfl := Option.some.inj h; exact ⟨_, rfl, Oy.gK he⟩) | (cases h; done)
      obtain ⟨y, e1, e2⟩ := hE
      obtain ⟨r1, r2⟩ := R.nG k y (by rw [hL]; exact e1)
      exact ⟨e2.2.1, λB hB => Row.eqv e2 (r2 B hB)⟩
  · refine R.gX k ?_
    cases hL : lk st.lb k with
    | none => rfl
    | some L =>
      obtain ⟨L', hL', he⟩ := hl k _ hL
      rw [hL'] at h
      cases L <;> cases L' <;> first | exact he.elim | rfl | (cases h; done)
  · have hdp : ∀ k y, lk st'.lb k = some (.deep y) -> ∃ x, lk st.lb k = some (.deep x) /\ Oy x y := λk y h => by
      obtain ⟨L, hL, he⟩ := (vP h3 k).1 _ h
      cases L with
      | deep x => exact ⟨x, hL, he⟩
      | _ => exact he.elim
    refine ⟨λk y h => ?_, λk j B h => ?_, R.bn.blk, R.bn.inj, R.bn.own, R.bn.box⟩
    · obtain ⟨x, hx, he⟩ := hdp k y h
      obtain ⟨g1, g2, g3⟩ := R.bn.ok k x hx
      obtain ⟨e1, e2, e3, e4, e5⟩ := he
      refine ⟨e2, by rw [<- e3]; exact g2, λj hj => ?_⟩
      rw [<- e4] at hj
      refine ⟨by rw [<- (e5 j hj).1]; exact (g3 j hj).1, ?_⟩
      have e6 := (e5 j hj).2
      rcases (g3 j hj).2 with ⟨q1, q2⟩ | ⟨q1, ⟨B, u, q2, q3, q4⟩, q5⟩
      · rw [q1] at e6; cases e6.1
      exact .inr ⟨e6.2.1, ⟨B, u, q2, q3, nN.eqv e6 q4⟩, λB' h' => Row.eqv e6 (q5 B' h')⟩
    obtain ⟨x, q1, q2⟩ := R.bn.only k j B h
    obtain ⟨L, e1, e2⟩ := hl k _ q1
    cases L with
    | deep y => exact ⟨y, e1, by rw [<- e2.2.2.2.1]; exact q2⟩
    | _ => exact e2.elim
  refine ⟨λk y h => ?_, R.sets.blk, R.sets.inj⟩
  obtain ⟨L, hL, he⟩ := (vP h3 k).1 _ h
  cases L with
  | set x =>
    cases x with
    | keys x => cases y with
      | keys y => obtain ⟨B, g1, g2⟩ := R.sets.ok k _ hL; exact ⟨B, g1, he.2.1, g2.2.eqv he⟩
      | tab _ => exact he.elim
    | tab _ => exact he.elim
  | _ => exact he.elim
end
section
variable {P:Program} {ty:iT} {tb:qj} {n:Nat} {draw:List Oper->St->Prop} {fin':Eu->St->Prop} {stop:List K->St->Prop} {k:List K} {st:St} {fG:List AV}
def ah7 (fG:List AV) (ts:List Nat) (bs ks:List (Nat×Nat)) (st st':St):Prop:=
 Ag bs ks (lk st.lb) fG/\nD bs/\nD ks/\(∃ s,mSl bs ks st ts=some s/\Ll aeg s st'.sl)/\(∃ s,mBx bs ks st bs=some s/\Ll BU s st'.bx)/\∃ s,mLb st ks=some s/\Ll BQ s st'.lb
theorem Stop.sees (S:Stop P ty tb n draw fin' stop fG) (ts:List Nat) (bs ks:List (Nat×Nat)) {st':St} (hv:ah7 fG ts bs ks st st') (h:stop k st'):stop k st:=by
 obtain ⟨h0,h1,h2,⟨s1,e1,z1⟩,⟨s2,e2,z2⟩,⟨s3,e3,z3⟩⟩:=hv
 exact S.weak st' (λ_ m _ _ _ hs R=>⟨m.view bs ks,Rel.eqv (R.view (st':=⟨s1,s2,s3⟩) ⟨h1,h2,e1,e2,e3⟩ (by rw [hs]; exact h0)) z1 z2 z3⟩) h
theorem Stop.Ug (S:Stop P ty tb n draw fin' stop fG) (t j s:Nat) (ht:lk st.sl t=some (.c .dF)) (hj:lk st.lb j=none)
 (h:stop k ⟨(t,.c (.own j))::st.sl,st.bx,(j,.owned (.sl s 0 λ_=>[]))::st.lb⟩):stop k st:=by
 refine S.weak _ (λcx m a w _ _ R=>⟨m,?_⟩) h
 have R':=R.MX hj (x:= .sl s 0 λ_=>[]) rfl
 have hno:m.own j=none:=R.zZ j hj
 refine { R' with slots:=λt' v h=> ?_ }
 simp only [lk] at h
 split at h
 ·rename_i e; subst e
  obtain rfl:=Option.some.inj h
  obtain ⟨r1,r2⟩:=R.slots _ _ ht
  refine ⟨r1,?_⟩
  simp only [RA,RU,fD,aX,hno]
  exact ⟨r2,rfl⟩
 exact R'.slots t' v h
theorem Stop.uI (S:Stop P ty tb n draw fin' stop fG) (b i j s:Nat) {l:List AC} (hb:lk st.bx b=some l) (hi:l.getD i .undef= .dF) (hil:i<l.length) (hj:lk st.lb j=none)
 (h:stop k ⟨st.sl,(b,l.set i (.own j))::st.bx,(j,.owned (.sl s 0 λ_=>[]))::st.lb⟩):stop k st:=by
 refine S.weak _ (λcx m a w _ _ R=>⟨m,?_⟩) h
 have R':=R.MX hj (x:= .sl s 0 λ_=>[]) rfl
 have hno:m.own j=none:=R.zZ j hj
 refine { R' with boxes:=λb' cs h=> ?_,gI:=λb' h=> ?_ }
 ·simp only [lk] at h
  split at h
  ·rename_i e; subst e
   obtain rfl:=Option.some.inj h
   obtain ⟨B,c,T,g1,g2,g3,g4⟩:=R'.boxes _ _ hb
   obtain ⟨B0,c0,T0,f1,f2,f3,f4⟩:=R.boxes _ _ hb
   refine ⟨B,c,T,g1,g2,by simpa using g3,λq hq=> ?_⟩
   simp only [List.length_set] at hq
   obtain ⟨u,hu,hr⟩:=g4 q hq
   refine ⟨u,hu,?_⟩
   by_cases hqi:q=i
   ·subst hqi
    rw [f1] at g1
    obtain rfl:=Option.some.inj g1
    rw [f2] at g2
    obtain ⟨rfl,rfl⟩:c0=c/\T0=T:=by simpa using g2
    obtain ⟨u0,hu0,hr0⟩:=f4 q hq
    rw [hu] at hu0
    obtain rfl:=Option.some.inj hu0
    rw [hi] at hr0
    have:(l.set q (.own j)).getD q .undef= .own j:=by simp [List.getD_eq_getElem?_getD,hil]
    rw [this]
    simp only [fD,aX,hno]
    exact ⟨hr0,rfl⟩
   have:(l.set i (.own j)).getD q .undef=l.getD q .undef:=by simp [List.getD_eq_getElem?_getD,Ne.symm hqi]
   rw [this]; exact hr
  exact R'.boxes b' cs h
 simp only [lk] at h
 split at h
 ·cases h
 exact R'.gI b' h
def D.dF (t n:Nat):D:= .sl 1 n λ_=>[.sl t 0 λ_=>[]]
def aff (x:D):Prop:=∀ j,j<x.len->x.nth j=[.nl]
theorem Rel.SS {cx:Cx} {m:Mp} {a:Act} {w:World} (R:Rel cx st m a w) {kl t:Nat} {x:D} (hk:lk st.lb kl=some (.owned x)) (hst:x.stride=1) (hn:aff x) (hB:x.len≠0->∃ B,m.own kl=some B) :
 Rel cx ⟨st.sl,st.bx,(kl,.deep (D.dF t x.len))::st.lb⟩ m a w:=by
 obtain ⟨hsl,hrow⟩:=R.owned kl x hk
 have hm:Move cx m w (lk st.lb) m w (lk ((kl,.deep (D.dF t x.len))::st.lb)):=by
  refine ⟨⟨Nat.le_refl _,λ_ _ _=>rfl,λ_ _ h=>h⟩,λ_ _ h=>h,λk'=> ?_⟩
  by_cases e:k'=kl
  ·subst e
   simp only [fZ,hk,aX]
   exact .inr (.inl ⟨(D.dF t x.len).gK,rfl,(by first | rfl | trivial),(by first | (rw [hst]; rfl) | trivial),(by first | rfl | trivial),λB _=> .of_eq rfl⟩)
  have:=gZ (cx:=cx) (st:=st) (m:=m) (m':=m) (w:=w) (w':=w) (λ_ _ h=>h) (λ_ h _=>h) (λk B _=> .of_eq rfl) rfl k'
  simpa only [fZ,aS e] using this
 have hno:∀ j,m.inn kl j=none:=λj=>by
  cases h:m.inn kl j with
  | none=>rfl
  | some B=>obtain ⟨y,h1,_⟩:=R.bn.only kl j B h; rw [hk] at h1; cases h1
 refine R.jC (.refl _) hm (λ_ _=>rfl) (.refl _) (λb cs hb=> ?_) R.gI (λk' y hy=> ?_) (λk' hk'=> ?_) ⟨λk' y hy=> ?_,λk' j B h=> ?_,R.bn.blk,R.bn.inj,R.bn.own,R.bn.box⟩ R.dK R.gu R.je R.kS R.sU
 ·obtain ⟨B,c,T,h1,h2,h3,h4⟩:=R.boxes b cs hb
  refine ⟨B,c,T,h1,h2,h3,λj hj=> ?_⟩
  obtain ⟨u,hu,hr⟩:=h4 j hj
  exact ⟨u,hu,hr.move hm⟩
 ·by_cases e:k'=kl
  ·subst e
   rw [aX] at hy
   obtain rfl:=Option.some.inj hy
   refine ⟨rfl,λB h=> ?_⟩
   obtain ⟨c,T,hc,_,hz⟩:=hrow B h
   refine ⟨c,T,hc,rfl,λi hi=>⟨rfl,λj hj=> ?_⟩⟩
   have hj':j<1:=hj
   obtain rfl:j=0:=by omega
   obtain ⟨u,hu,hd⟩:=(hz i hi).2 0 (by omega)
   rw [hst] at hu
   exact ⟨u,hu,.undef _ hd.one⟩
  rw [aS e] at hy; exact R.nG k' y hy
 ·have e:k'≠kl:=by rintro rfl; rw [aX] at hk'; cases hk'
  exact R.gX k' (by rw [aS e] at hk'; exact hk')
 ·by_cases e:k'=kl
  ·subst e
   rw [aX] at hy
   cases hy
   refine ⟨rfl,rfl,λj hj=>⟨rfl,.inr ⟨rfl,?_,λB h=>by rw [hno j] at h; cases h⟩⟩⟩
   have hj':j<x.len:=hj
   obtain ⟨B,hBB⟩:=hB (by omega)
   obtain ⟨c,T,hc,_,hz⟩:=hrow B hBB
   obtain ⟨u,hu,hd⟩:=(hz j hj').2 0 (by omega)
   rw [hn j hj'] at hd
   have hun:u= .slice none 0 0:=by cases hd; rfl
   subst hun
   rw [hst,Nat.mul_one,Nat.add_zero] at hu
   exact ⟨B,.slice none 0 0,hBB,by simp only [World.cell?,hc]; simpa using hu,by rw [hno j]; exact ⟨rfl,rfl⟩⟩
  rw [aS e] at hy; exact R.bn.ok k' y hy
 obtain ⟨y,h1,h2⟩:=R.bn.only k' j B h
 have e:k'≠kl:=by rintro rfl; rw [hk] at h1; cases h1
 exact ⟨y,by rw [aS e]; exact h1,h2⟩
theorem Stop.SS (S:Stop P ty tb n draw fin' stop fG) (kl t s:Nat) {x:D} (hk:lk st.lb kl=some (.owned x)) (hs:lk st.sl s=some (.c (.own kl))) (hst:x.stride=1) (hn:aff x)
 (h:stop k ⟨st.sl,st.bx,(kl,.deep (D.dF t x.len))::st.lb⟩):stop k st:=
 S.weak _ (λcx m a w _ _ R=>⟨m,R.SS hk hst hn (λh0=>by
  obtain ⟨_,hv⟩:=R.slots s _ hs
  simp only [RA,RU,fD,hk] at hv
  cases ho:m.own kl with
  | none=>rw [ho] at hv; exact absurd hv.2 h0
  | some B=>exact ⟨B,rfl⟩)⟩) h
theorem Rel.SK {cx:Cx} {m:Mp} {a:Act} {w:World} (R:Rel cx st m a w) {kl:Nat} {x y:D} (hk:lk st.lb kl=some (.deep x)) (he:Oy x y) :
 Rel cx ⟨st.sl,st.bx,(kl,.owned y)::st.lb⟩ ⟨m.own,m.box,λq j=>if q=kl then none else m.inn q j,m.mp⟩ a w:=by
 obtain ⟨d1,d2,d3⟩:=R.bn.ok kl x hk
 obtain ⟨e1,e2,e3,e4,e5⟩:=he
 have jv:∀ q j B,(if q=kl then none else m.inn q j)=some B->q≠kl/\m.inn q j=some B:=λq j B h=>by
  split at h
  ·cases h
  exact ⟨by assumption,h⟩
 have hsub:∀ B',fP cx m B'->fP cx ⟨m.own,m.box,λq j=>if q=kl then none else m.inn q j,m.mp⟩ B':=λB' h=>⟨h.1,h.2.1,h.2.2.1,λq j hq=>h.2.2.2 q j (jv q j B' hq).2⟩
 have hin:∀ j B,m.inn kl j=some B->fP cx ⟨m.own,m.box,λq j=>if q=kl then none else m.inn q j,m.mp⟩ B:=λj B h=>
  ⟨.inr (R.bn.blk _ _ _ h).1,λk'=>R.bn.own _ _ k' _ h,λb=>R.bn.box _ _ b _ h,λq j' hq=>(jv q j' B hq).1 (R.bn.inj _ _ _ _ _ (jv q j' B hq).2 h).1⟩
 have hrow:∀ B,m.own kl=some B->Row w (fP cx ⟨m.own,m.box,λq j=>if q=kl then none else m.inn q j,m.mp⟩) B y:=λB hB=>by
  obtain ⟨c,T,hc,_,hz⟩:=(R.nG kl x.gK (by rw [hk]; rfl)).2 B hB
  refine ⟨c,T,hc,e2,λi hi=> ?_⟩
  rw [<- e4] at hi
  rw [<- e3,d2]
  refine ⟨by rw [<- (e5 i hi).1]; exact (d3 i hi).1,λj hj=> ?_⟩
  obtain rfl:j=0:=by omega
  have e6:=(e5 i hi).2
  rcases (d3 i hi).2 with ⟨q1,q2⟩ | ⟨q1,⟨B2,u,q2,q3,q4⟩,q5⟩
  ·rw [q1] at e6; cases e6.1
  rw [hB] at q2; cases q2
  simp only [World.cell?,hc] at q3
  refine ⟨u,by simpa using q3,?_⟩
  have hys:(yd y i).cu=true:=e6.2.1
  refine (show RD w _ (yd x i) u from ?_).eqv e6.eqv
  cases ho:m.inn kl i with
  | none=>
   rw [ho] at q4
   obtain ⟨rfl,hn⟩:=q4
   rw [D.eta q1,hn]; exact .sl0 _ _ _ _
  | some B3=>
   rw [ho] at q4
   obtain ⟨cap,c3,T3,rfl,_,_,hle⟩:=q4
   exact yx (Row.ext ⟨Nat.le_refl _,λ_ _ _=>rfl,λB' _ h=>hsub B' h⟩ rfl (q5 B3 ho)) (hin i B3 ho) (R.bn.blk _ _ _ ho).2 hle
 have hm:Move cx m w (lk st.lb) ⟨m.own,m.box,λq j=>if q=kl then none else m.inn q j,m.mp⟩ w (lk ((kl,.owned y)::st.lb)):=by
  refine ⟨⟨Nat.le_refl _,λ_ _ _=>rfl,λB' _ h=>hsub B' h⟩,λ_ _ h=>h,λk'=> ?_⟩
  by_cases e:k'=kl
  ·subst e
   simp only [fZ,hk,aX]
   exact .inr (.inl ⟨y,(by first | rfl | trivial),e4.symm,e3.symm,(by first | rfl | trivial),λB _=> .of_eq rfl⟩)
  have:=gZ (cx:=cx) (st:=st) (m:=m) (m':=m) (w:=w) (w':=w) (λ_ _ h=>h) (λ_ h _=>h) (λk B _=> .of_eq rfl) rfl k'
  simp only [fZ,aS e] at this ⊢
  cases hl:lk st.lb k' with
  | none=>trivial
  | some L=>
   simp only [hl] at this ⊢
   cases L with
   | owned z=>exact .inr (.inl ⟨z,(by first | rfl | trivial),(by first | rfl | trivial),(by first | rfl | trivial),(by first | rfl | trivial),λB _=> .of_eq rfl⟩)
   | deep z=>exact .inr (.inl ⟨z.gK,(by first | rfl | trivial),(by first | rfl | trivial),(by first | rfl | trivial),(by first | rfl | trivial),λB _=> .of_eq rfl⟩)
   | shared z=>simp
   | dead=>rfl
   | set z=>exact .inr ⟨z,(by first | rfl | trivial),(by first | rfl | trivial)⟩
 refine R.jC (.refl _) hm (λ_ _=>rfl) (.refl _) (λb cs hb=> ?_) R.gI (λk' z hz=> ?_) (λk' hk'=> ?_) ⟨λk' z hz=> ?_,λk' j B h=> ?_,λk' j B h=>R.bn.blk _ _ _ (jv _ _ _ h).2,λq j q' j' B h h'=>R.bn.inj _ _ _ _ _ (jv _ _ _ h).2 (jv _ _ _ h').2,λq j k' B h=>R.bn.own _ _ _ _ (jv _ _ _ h).2,λq j b B h=>R.bn.box _ _ _ _ (jv _ _ _ h).2⟩ R.dK R.gu R.je R.kS R.sU
 ·obtain ⟨B,c,T,h1,h2,h3,h4⟩:=R.boxes b cs hb
  refine ⟨B,c,T,h1,h2,h3,λj hj=> ?_⟩
  obtain ⟨u,hu,hr⟩:=h4 j hj
  exact ⟨u,hu,hr.move hm⟩
 ·by_cases e:k'=kl
  ·subst e
   rw [aX] at hz
   obtain rfl:=Option.some.inj hz
   exact ⟨e2,hrow⟩
  rw [aS e] at hz
  exact ⟨(R.nG k' z hz).1,λB h=>((R.nG k' z hz).2 B h).ext hm.ext rfl⟩
 ·have e:k'≠kl:=by rintro rfl; rw [aX] at hk'; cases hk'
  exact R.gX k' (by rw [aS e] at hk'; exact hk')
 ·have e:k'≠kl:=by rintro rfl; rw [aX] at hz; cases hz
  rw [aS e] at hz
  obtain ⟨g1,g2,g3⟩:=R.bn.ok k' z hz
  refine ⟨g1,g2,λj hj=>⟨(g3 j hj).1,?_⟩⟩
  rcases (g3 j hj).2 with ⟨q1,q2⟩ | ⟨q1,⟨B,u,q2,q3,q4⟩,q5⟩
  ·exact .inl ⟨q1,by simp only [if_neg e]; exact q2⟩
  exact .inr ⟨q1,⟨B,u,q2,q3,by simp only [if_neg e]; exact q4⟩,λB' h'=>(q5 B' (by simpa only [if_neg e] using h')).ext hm.ext rfl⟩
 obtain ⟨e,h⟩:=jv _ _ _ h
 obtain ⟨z,h1,h2⟩:=R.bn.only _ _ _ h
 exact ⟨z,by rw [aS e]; exact h1,h2⟩
theorem Stop.SK (S:Stop P ty tb n draw fin' stop fG) (kl:Nat) {x:D} (y:D) (hk:lk st.lb kl=some (.deep x)) (he:Oy x y)
 (h:stop k ⟨st.sl,st.bx,(kl,.owned y)::st.lb⟩):stop k st:=
 S.weak _ (λcx m a w _ _ R=>⟨_,R.SK hk he⟩) h
theorem Stop.share (S:Stop P ty tb n draw fin' stop fG) (j:Nat) {x:D} (hj:lk st.lb j=some (.owned x)) (h:stop k ⟨st.sl,st.bx,(j,.shared x)::st.lb⟩):stop k st:=
 S.weak _ (λ_ m _ _ _ _ R=>⟨_,R.share hj⟩) h
end
def jd:List D->List D->Prop
 | [],[]=>True
 | x::r,y::s=>oH x y/\jd r s
 | _,_=>False
def eqvArg:Arg->Arg->Prop
 | .c x,.c y=>oH x y
 | .agg l,.agg r=>jd l r
 | .ptr l,.ptr r=>jd l r
 | a,b=>a=b
def eqvArgs:List Arg->List Arg->Prop
 | [],[]=>True
 | x::r,y::s=>eqvArg x y/\eqvArgs r s
 | _,_=>False
theorem BR:∀ {l r:List D},jd l r->r.length=l.length/\∀ i,i<l.length->oH (l.getD i .undef) (r.getD i .undef)
 | [],[],_=>⟨rfl,λi hi=>absurd hi (by simp)⟩
 | [],_::_,h=>h.elim
 | _::_,[],h=>h.elim
 | x::l,y::r,h=>by
  obtain ⟨g1,g2⟩:=BR h.2
  refine ⟨by simp [g1],λi hi=> ?_⟩
  cases i with
  | zero=>simpa using h.1
  | succ i=>simpa using g2 i (by simpa using hi)
theorem Ov.eqv {w:World} {S:Nat->Prop} {x y:Arg} {v:Value} (h:eqvArg x y) (hr:Ov w S x v):Ov w S y v:=by
 cases x with
 | c x=>cases y with
  | c y=>exact RD.eqv h hr
  | _=>cases h
 | agg l=>cases y with
  | agg r=>
   obtain ⟨vs,e,hsz,hc⟩:=hr
   obtain ⟨g1,g2⟩:=BR h
   refine ⟨vs,e,by rw [g1]; exact hsz,λi hi=> ?_⟩
   rw [g1] at hi
   obtain ⟨u,hu,hd⟩:=hc i hi
   exact ⟨u,hu,hd.eqv (g2 i hi)⟩
  | _=>cases h
 | ptr l=>cases y with
  | ptr r=>
   obtain ⟨g1,g2⟩:=BR h
   exact Ptr.eqv g1.symm g2 hr
  | _=>cases h
 | clo f caps=>cases h; exact hr
theorem jH.eqv {w:World} {S:Nat->Prop}:∀ {l r:List Arg} {vs:List Value},eqvArgs l r->jH w S l vs->jH w S r vs
 | [],[],_,_,h=>h
 | [],_::_,_,h,_=>h.elim
 | _::_,[],_,h,_=>h.elim
 | _::_,_::_,[],_,h=>h.elim
 | _::_,_::_,_::_,h,hr=>⟨Ov.eqv h.1 hr.1,jH.eqv h.2 hr.2⟩
theorem oH.scalar {x y:D} (h:oH x y) (hs:y.scalar=true):x.scalar=true/\x=y:=by
 cases h with
 | refl d=>exact ⟨hs,rfl⟩
 | nil=>cases hs
 | sl=>cases hs
 | rO=>cases hs
 | Qd=>cases hs
 | pt=>cases hs
theorem ou.flat {x y:D} (h:ou x y) (hf:y.flat):x.flat:=by
 obtain ⟨h1,h2,h3,h4,h5⟩:=h
 intro i hi
 obtain ⟨g1,g2⟩:=h5 i hi
 have hy:=hf i (by omega)
 rw [List.all_eq_true] at hy ⊢
 intro d hd
 obtain ⟨j,hj⟩:=List.mem_iff_getElem?.1 hd
 have hlt:=(List.getElem?_eq_some_iff.1 hj).1
 have hq:=g2 j
 rw [List.getD_eq_getElem?_getD,hj,Option.getD_some] at hq
 refine (hq.scalar (hy _ ?_)).1
 rw [List.getD_eq_getElem?_getD,List.getElem?_eq_getElem (by rw [<- g1]; exact hlt)]
 exact List.getElem_mem _
def Es (al:Bool) (lb:Nat->Option fE):AC->RC->Prop
 | .d y,.d x=>oH y x/\(al=true\/x.scalar=true)
 | .own k,.own x=>∃ z,lb k=some (.owned z)/\ou z x/\(al=true\/x.flat)
 | .own k,.d x=>(∃ z,lb k=some (.owned z)/\ou z x/\(al=true\/x.flat))\/(al=true/\∃ z,lb k=some (.shared z)/\oH z x)
 | .dF,.d x=>x.cu=true/\x.len=0
 | .dF,.own x=>x.cu=true/\x.len=0
 | .dM l 0,.d x=>oH (.pt true l) x/\al=true
 | _,_=>False
def AA (al:Bool) (lb:Nat->Option fE):List AC->List RC->Prop
 | [],[]=>True
 | c::cs,r::rs=>Es al lb c r/\AA al lb cs rs
 | _,_=>False
def afa (al:Bool) (lb:Nat->Option fE):AU->RV->Prop
 | .c c,.c r=>Es al lb c r
 | .agg cs,.agg rs=>AA al lb cs rs
 | _,_=>False
def Ol (al:Bool) (lb:Nat->Option fE):List AU->List RV->Prop
 | [],[]=>True
 | x::xs,r::rs=>afa al lb x r/\Ol al lb xs rs
 | _,_=>False
def aee:RC->RC->Prop
 | .d x,.d y=>oH x y
 | .own x,.own y=>ou x y
 | _,_=>False
def BP:List RC->List RC->Prop
 | [],[]=>True
 | x::r,y::s=>aee x y/\BP r s
 | _,_=>False
def XZ:RV->RV->Prop
 | .c x,.c y=>aee x y
 | .agg l,.agg r=>BP l r
 | _,_=>False
def Hz:List RV->List RV->Prop
 | [],[]=>True
 | x::r,y::s=>XZ x y/\Hz r s
 | _,_=>False
theorem aeC {al:Bool} {lb:Nat->Option fE} {c:AC} {r:RC} (h:Es al lb c r):∃ r',Ib al lb c r'/\aee r' r:=by
 cases c with
 | d y=>cases r with
  | d x=>exact ⟨.d y,⟨rfl,h.2.imp id (λhs=>(h.1.scalar hs).1)⟩,h.1⟩
  | own x=>exact h.elim
 | own k=>cases r with
  | d x=>
   rcases h with ⟨z,h1,h2,h3⟩ | ⟨h1,z,h2,h3⟩
   ·exact ⟨.d z,.inl ⟨h1,h3.imp id (λhf=>h2.flat hf)⟩,h2.eqv⟩
   ·exact ⟨.d z,.inr ⟨h1,h2⟩,h3⟩
  | own x=>
   obtain ⟨z,h1,h2,h3⟩:=h
   exact ⟨.own z,⟨h1,h3.imp id (λhf=>h2.flat hf)⟩,h2⟩
 | dF=>cases r with
  | d x=>exact ⟨.d x,h,.refl _⟩
  | own x=>exact ⟨.own x,h,.refl h.1⟩
 | dM l off=>
  cases off with
  | zero=>cases r with
   | d x=>exact ⟨.d (.pt true l),⟨rfl,h.2⟩,h.1⟩
   | own x=>exact h.elim
  | succ o=>cases r<;>exact h.elim
 | _=>cases r<;>exact h.elim
theorem X9 {al:Bool} {lb:Nat->Option fE}:∀ {cs:List AC} {rs:List RC},AA al lb cs rs->∃ rs',AB al lb cs rs'/\BP rs' rs
 | [],[],_=>⟨[],trivial,trivial⟩
 | [],_::_,h=>h.elim
 | _::_,[],h=>h.elim
 | _::_,_::_,h=>by
  obtain ⟨r',h1,h2⟩:=aeC h.1
  obtain ⟨rs',h3,h4⟩:=X9 h.2
  exact ⟨r'::rs',⟨h1,h3⟩,⟨h2,h4⟩⟩
theorem aEs {al:Bool} {lb:Nat->Option fE} {x:AU} {r:RV} (h:afa al lb x r):∃ r',ahV al lb x r'/\XZ r' r:=by
 cases x with
 | c x=>cases r with
  | c r=>obtain ⟨r',h1,h2⟩:=aeC h; exact ⟨.c r',h1,h2⟩
  | agg r=>exact h.elim
 | agg x=>cases r with
  | c r=>exact h.elim
  | agg r=>obtain ⟨r',h1,h2⟩:=X9 h; exact ⟨.agg r',h1,h2⟩
theorem ajo {al:Bool} {lb:Nat->Option fE}:∀ {cs:List AU} {rs:List RV},Ol al lb cs rs->∃ rs',Ry al lb cs rs'/\Hz rs' rs
 | [],[],_=>⟨[],trivial,trivial⟩
 | [],_::_,h=>h.elim
 | _::_,[],h=>h.elim
 | _::_,_::_,h=>by
  obtain ⟨r',h1,h2⟩:=aEs h.1
  obtain ⟨rs',h3,h4⟩:=ajo h.2
  exact ⟨r'::rs',⟨h1,h3⟩,⟨h2,h4⟩⟩
theorem wO:∀ {r s:List RC},BP r s->∀ cs,jg cs r=jg cs s/\o9 cs r=o9 cs s/\xB r=xB s
 | [],[],_,cs=>by cases cs<;>exact ⟨rfl,rfl,rfl⟩
 | [],_::_,h,_=>h.elim
 | _::_,[],h,_=>h.elim
 | x::r,y::s,h,[]=>by
  have:=(wO h.2 []).2.2
  cases x<;>cases y<;>first | exact h.1.elim | exact ⟨rfl,rfl,by simpa [xB] using this⟩
 | x::r,y::s,h,c::cs=>by
  obtain ⟨h1,h2,h3⟩:=wO h.2 cs
  cases x<;>cases y<;>first | exact h.1.elim | exact ⟨by simp [jg,h1],by simp [o9,h2],by simp [xB,h3]⟩
theorem JF {r s:RV} (h:XZ r s):BP r.cells s.cells:=by
 cases r<;>cases s<;>first | exact h.elim | exact h | exact ⟨h,trivial⟩
theorem PZ:∀ {r s:List RV},Hz r s->∀ xs,lK xs r=lK xs s/\xG xs r=xG xs s
 | [],[],_,xs=>⟨rfl,rfl⟩
 | [],_::_,h,_=>h.elim
 | _::_,[],h,_=>h.elim
 | x::r,y::s,h,[]=>⟨rfl,rfl⟩
 | x::r,y::s,h,c::cs=>by
  obtain ⟨h1,h2⟩:=PZ h.2 cs
  obtain ⟨g1,g2,_⟩:=wO (JF h.1) c.cells
  exact ⟨by simp [lK,h1,g1],by simp [xG,h2,g2]⟩
theorem Mc {w:World} {S:Nat->Prop} {own:Nat->Option Nat}:∀ {r s:List RC} {j:Nat} {vs:List Value},BP r s->Ou w S own j r vs->Ou w S own j s vs
 | [],[],_,_,_,h=>h
 | [],_::_,_,_,h,_=>h.elim
 | _::_,[],_,_,h,_=>h.elim
 | .d x::r,.d y::s,j,[],_,hr=>hr.elim
 | .own x::r,.own y::s,j,[],_,hr=>hr.elim
 | .d x::r,.d y::s,j,v::vs,h,hr=>⟨RD.eqv h.1 hr.1,Mc h.2 hr.2⟩
 | .own x::r,.own y::s,j,v::vs,h,hr=>⟨⟨h.1.2.1,nN.eqv h.1 hr.1.2.1,λB hB=>Row.eqv h.1 (hr.1.2.2 B hB)⟩,Mc h.2 hr.2⟩
 | .d x::r,.own y::s,j,_,h,_=>h.1.elim
 | .own x::r,.d y::s,j,_,h,_=>h.1.elim
theorem aiu {w:World} {S:Nat->Prop} {own:Nat->Option Nat} {j:Nat} {r s:RV} {v:Value} (h:XZ r s) (hr:RRv w S own j r v):RRv w S own j s v:=by
 cases r<;>cases s<;>first | exact h.elim | skip
 ·exact Mc (r:=[_]) (s:=[_]) ⟨h,trivial⟩ hr
 obtain ⟨vs,e,h2⟩:=hr
 exact ⟨vs,e,Mc h h2⟩
theorem abu {w:World} {S:Nat->Prop} {own:Nat->Option Nat}:∀ {r s:List RV} {j:Nat} {vs:List Value},Hz r s->RN w S own j r vs->RN w S own j s vs
 | [],[],_,_,_,h=>h
 | [],_::_,_,_,h,_=>h.elim
 | _::_,[],_,_,h,_=>h.elim
 | _::_,_::_,_,[],_,hr=>hr.elim
 | x::r,y::s,j,v::vs,h,hr=>⟨aiu h.1 hr.1,by
  have:=(wO (JF h.1) []).2.2
  rw [<- this]
  exact abu h.2 hr.2⟩
theorem aj7 {w:World} {S:Nat->Prop} {own:Nat->Option Nat} {r s:List RV} {v:Value} (h:Hz r s) (hr:RQ w S own r v):RQ w S own s v:=by
 match r,s,h with
 | [],[],_=>exact hr
 | [x],[y],h=>exact aiu h.1 hr
 | x::x'::r,y::y'::s,h=>
  obtain ⟨vs,e,h2⟩:=hr
  exact ⟨vs,e,abu h h2⟩
 | [],_::_,h=>exact h.elim
 | _::_,[],h=>exact h.elim
 | [_],_::_::_,h=>exact h.2.elim
 | _::_::_,[_],h=>exact h.2.elim
def Ap (ty:iT) (fn:List ResultVar) (al:Bool) (rs:List RV) (st:St):Prop:=
 (fA ty st fn).1/\Ol al (lk st.lb) (fA ty st fn).2 rs/\((lK (fA ty st fn).2 rs).filterMap id).Nodup/\∀ k∈xG (fA ty st fn).2 rs,k∉(lK (fA ty st fn).2 rs).filterMap id
theorem aaT {P:Program} {ty:iT} {tb:qj} {f:Nat} {fn:Func} {c:Code} {sp:fO} {n:Nat} (hty:iP P ty) (htb:fM P tb) (hf:P.funcs[f]? =some fn) (hb:fn.body=some c) (hn:fn.ntmps=n)
 (nrm:List Arg->List Arg) (h:∀ args,sp.pre args->eqvArgs args (nrm args)/\(nrm args).length<=n/\∀ stop,Stop P ty tb n (drawn ty tb n) (lu (Ap ty fn.results.toList sp.alias (sp.res args))) stop->stop [.code c] (St.begin (nrm args))):Valid P f sp:=by
 refine OI hty htb hf hb hn (λcx e=>bD hty htb cx e) (λargs=>Ap ty fn.results.toList sp.alias (sp.res args)) ?_ nrm (λargs w S vs hp hr=>jH.eqv (h args hp).1 hr) (λargs hp=>(h args hp).2.2) (λargs hp=>(h args hp).2.1)
 intro args cx st m a w hp R hfin
 obtain ⟨h1,h2,h3,h4⟩:=hfin
 obtain ⟨rs',g1,g2⟩:=ajo h2
 obtain ⟨e1,e2⟩:=PZ g2 (fA ty st fn.results.toList).2
 obtain ⟨v,k1,k2⟩:=ad2 (P:=P) hty R (fn:=fn) (sp:= { sp with res:=λ_=>rs' }) (args:=args) ⟨h1,g1,by rw [e1]; exact h3,by rw [e1,e2]; exact h4⟩
 obtain ⟨own,q1,q2,q3⟩:=k2.res
 exact ⟨v,k1,⟨k2.env,k2.size,k2.old,own,q1,q2,aj7 g2 q3⟩⟩
theorem aea (d:D):oH d d=True:=eq_true (.refl d)
theorem aht {j k:IntKind} {a b:Int}:oH (.int j a) (.int k b)=(j=k/\a=b):=by
 refine propext ⟨λh=> ?_,λ⟨h1,h2⟩=>by subst h1; subst h2; exact .refl _⟩
 cases h; exact ⟨rfl,rfl⟩
theorem aed {a b:Bool}:oH (.bool a) (.bool b)=(a=b):=by
 refine propext ⟨λh=> ?_,λh2=>by subst h2; exact .refl _⟩
 cases h; rfl
attribute [go_sem] Es AA afa Ol Ap aea aht aed ah7 Ll aeg KD BU BQ ajc jd eqvArg eqvArgs
end Go.dR
set_option linter.unusedVariables false
set_option linter.unusedSimpArgs false
namespace Go.dR
def Ie:Cap->AV
 | .ref b off=> .c (.ref b off)
 | .dM l off=> .c (.dM l off)
def Uz:Nat->List AV->List (Nat×AV)
 | _,[]=>[]
 | i,v::r=>(i,v)::Uz (i+1) r
def dG (sl:List (Nat×AV)):List Nat->List (Nat×AV)
 | []=>[]
 | t::r=>match lk sl t with
  | some v=>(t,v)::dG sl r
  | none=>dG sl r
def Xm:List AU->AV
 | [x]=> .u x
 | l=> .Jy l
def yc:List (Nat×AV)->List AV
 | []=>[]
 | p::r=>p.2::yc r
theorem zH:∀ l,yc l=l.map (·.2)
 | []=>rfl
 | p::r=>by simp [yc,zH r]
theorem rZ (ty:iT) (tb:qj) (nt:Nat) (ops:List Oper):∀ (r p q:List Oper) (st:St),ops=p++r++q->lg ty tb nt ops ((List.range r.length).map (p.length+ ·)) st=iQ ty tb nt (ops.map (·.dst)) r st
 | [],p,q,st,_=>rfl
 | o::r,p,q,st,h=>by
  have hl:(List.range (o::r).length).map (p.length+ ·)=p.length::(List.range r.length).map ((p++[o]).length+ ·):=by
   rw [List.length_cons,List.range_succ_eq_map,List.map_cons,List.map_map]
   simp only [List.length_append,List.length_singleton,Nat.add_zero]
   congr 1
   apply List.map_congr_left
   intro x _
   simp; omega
  have ho:ops[p.length]? =some o:=by rw [h,List.append_assoc,List.getElem?_append_right (Nat.le_refl _)]; simp
  rw [hl]
  simp only [lg,ho,iQ]
  rw [rZ ty tb nt ops r (p++[o]) q _ (by rw [h]; simp)]
section
variable {P:Program} {ty:iT} {tb:qj} {cx:Cx} {st:St} {m m1 m':Mp} {a:Act} {w w':World} {o:Oper} {out:Out} {ws:List Wr}
theorem Ej {ρ:Option Nat} (hty:iP P ty) (htb:fM P tb) {ops:Array Oper} {Q:Exit->Act->World->Prop} {l':List Nat} (l:List Nat):∀ (st:St) (m:Mp) (a:Act) (w:World),Rel cx st m a w->(lg ty tb cx.nt ops.toList l st).1->
 (∀ m' a' w',Rel cx (lg ty tb cx.nt ops.toList l st).2 m' a' w'->wpOpsIn (FR ρ) 0 P ops Q l' a' w')->wpOpsIn (FR ρ) 0 P ops Q (l++l') a w:=by
 induction l with
 | nil=>intro st m a w R _ h; exact h m a w R
 | cons i l ih=>
  intro st m a w R h1 h2
  simp only [List.cons_append,wpOpsIn]
  simp only [lg,Array.getElem?_toList] at h1 h2
  cases ho:ops[i]? with
  | none=>simp only [ho] at h1 h2; exact ih st m a w R h1 h2
  | some o=>
   simp only [ho] at h1 h2
   exact JC hty htb R h1.1 (λm' a' w' R'=>ih _ m' a' w' R' h1.2 h2)
theorem Xl (hty:iP P ty) (R:Rel cx st m a w) {fn:Func} (h:(fA ty st fn.results.toList).1) :
 ∃ v,(results fn a.tmps).run P w= .ok v w/\RA cx m w (lk st.lb) (Xm (fA ty st fn.results.toList).2) v:=by
 obtain ⟨vs,g1,g2,g3,g4⟩:=yC (P:=P) hty R h
 have hrun:(fn.results.mapM (Ba a.tmps)).run P w= .ok vs.toArray w:=by
  rw [Array.mapM_eq_mapM_toList]
  simp only [Sem.run_map,g1,Result.andThen_ok]
 refine ⟨_,by rw [FW,Sem.run_bind,hrun]; rfl,?_⟩
 rw [<- g3] at g2 g4
 generalize (fA ty st fn.results.toList).2=xs at*
 match xs,vs,g2,g4 with
 | [x],[v],_,g4=>
  obtain ⟨u,hu,hr⟩:=g4 0 (by simp)
  obtain rfl:v=u:=by simpa using hu
  exact hr
 | [],[],_,_=>exact ⟨#[],rfl,rfl,λi hi=>absurd hi (by simp)⟩
 | x::y::r,vs,g2,g4=>
  rw [dif_neg (by simp [g2])]
  exact ⟨vs.toArray,rfl,by simpa using g2,λi hi=>by
   obtain ⟨u,hu,hr⟩:=g4 i hi
   exact ⟨u,by simpa using hu,hr⟩⟩
 | [_],[],h,_=>cases h
 | [_],_::_::_,h,_=>simp at h
 | [],_::_,h,_=>cases h
theorem Nl:∀ {l:List AV} {i t:Nat} {v:AV},lk (Uz i l) t=some v->∃ j,l[j]? =some v/\t=i+j
 | [],_,_,_,h=>by cases h
 | x::r,i,t,v,h=>by
  simp only [Uz,lk] at h
  split at h
  ·rename_i e
   obtain rfl:=Option.some.inj h
   exact ⟨0,rfl,by omega⟩
  obtain ⟨j,h1,h2⟩:=Nl h
  exact ⟨j+1,by simpa using h1,by omega⟩
theorem tu:∀ {sl:List (Nat×AV)} {ts:List Nat} {t:Nat} {v:AV},lk (dG sl ts) t=some v->lk sl t=some v/\(t,v)∈dG sl ts
 | sl,[],_,_,h=>by cases h
 | sl,t0::r,t,v,h=>by
  simp only [dG] at h ⊢
  split at h
  ·rename_i u hu
   simp only [lk] at h
   split at h
   ·rename_i e; subst e; obtain rfl:=Option.some.inj h
    exact ⟨hu,by simp⟩
   obtain ⟨h1,h2⟩:=tu h
   exact ⟨h1,List.mem_cons_of_mem _ h2⟩
  rename_i hu
  obtain ⟨h1,h2⟩:=tu h
  exact ⟨h1,h2⟩
theorem vN:∀ {sl:List (Nat×AV)} {ts:List Nat} {p:Nat×AV},p∈dG sl ts->lk sl p.1=some p.2
 | sl,[],_,h=>by cases h
 | sl,t0::r,p,h=>by
  simp only [dG] at h
  split at h
  ·rename_i u hu
   rcases List.mem_cons.1 h with rfl | h
   ·exact hu
   exact vN h
  exact vN h
theorem jw (st:St):∀ l:List Operand,valsOf st l=l.map (valOf st)
 | []=>rfl
 | x::r=>by simp [valsOf,jw st r]
def Uy (ty:iT) (rs:List ResultVar) (stop:List K->St->Prop) (k:List K) (kept:List (Nat×AV)) (dst:Option Nat) (s:St):Prop:=
 (fA ty s rs).1/\stop k ((⟨kept,s.bx,s.lb⟩:St).done dst ⟨True,Xm (fA ty s rs).2,[]⟩)
def alB (P:Program) (ty:iT) (tb:qj) (n':Nat) (sD:List Oper->St->Prop) (stop:List K->St->Prop) (k:List K) (fG:List AV) (ts:List Nat) (dst:Option Nat) (g:Nat) (caps:List Cap) (rs:List ResultVar) (c:Code) (x:Operand) (args:List Operand):Prop×St->Prop
 | (p,st1)=>p/\valOf st1 x= .u (.c (.clo g caps))/\∀ stop',Stop P ty tb n' sD (lu (Uy ty rs stop k (dG st1.sl ts) dst)) stop' (fG++yc (dG st1.sl ts))->stop' [.code c] ⟨Uz 0 (valsOf st1 args++caps.map Ie),st1.bx,st1.lb⟩
theorem BD {cx:Cx} {w:World}:Marks cx w [] []:=⟨rfl,List.nodup_nil,(λ_ h=>by cases h),(λ_ h=>by cases h),(λ_ h=>by cases h)⟩
theorem Pv (R:Rel cx st m a w) {Ds:List Nat} (hm:Marks cx w a.defers Ds):∀ p,p∈cx.recs++Ds.map (λD=>(D,Obj.deferred (some [])))->cx.w0.heap.size<=p.1/\w.heap[p.1]? =some p.2/\oP p.2:=by
 intro p hp
 rcases List.mem_append.1 hp with hp | hp
 ·exact R.recs p hp
 obtain ⟨D,hD,rfl⟩:=List.mem_map.1 hp
 exact ⟨hm.lo D hD,hm.here D hD,λ_ _ _ e=>(by cases e),λ_ _ e=>(by cases e)⟩
theorem Uo {cx X3:Cx} {st:St} {m:Mp} {a a1:Act} {w w1:World} (R:Rel X3 st m a w) {Ds:List Nat} (hm:Marks cx w1 a1.defers Ds) {L:List (Nat×Obj)} (hL:X3.recs=cx.recs++Ds.map (λD=>(D,Obj.deferred (some [])))++L:=by simp):Marks cx w a1.defers Ds:=
 { hm with here:=λD hD=>(R.recs (D,.deferred (some [])) (by rw [hL]; exact List.mem_append.2 (.inl (List.mem_append.2 (.inr (List.mem_map.2 ⟨D,hD,rfl⟩)))))).2.1 }
end
attribute [go_sem] valsOf Ie Uz dG Xm yc Uy alB gy ahg List.take_append_drop lu Xv
end Go.dR
set_option linter.unusedVariables false
set_option linter.unusedSimpArgs false
namespace Go.dR
def aj {α:Type} [Inhabited α] (s:Nat) (f:α->List D) (l:List α):D:= .sl s l.length (λi=>f (l.getD i default))
def aN {α:Type} (g:List D->α) (x:D):List α:=(List.range x.len).map λi=>g (x.nth i)
def iD:List D->Int | [.int _ n]=>n | _=>0
def dI (n:Int):List D:=[.int .i64 n]
def eI (l:List Int):D:=aj 1 dI l
structure uJ (α:Type) where
 enc:α->List Arg
 dec:List Arg->α
 pre:α->Prop
 res:α->List RV
 al:Bool:=false
def uJ.sp {α:Type} (T:uJ α):fO:=⟨λa=>eqvArgs a (T.enc (T.dec a))/\T.pre (T.dec a),λa=>T.res (T.dec a),T.al⟩
theorem VO {α:Type} {P:Program} {ty:iT} {tb:qj} {f:Nat} {fn:Func} {c:Code} {T:uJ α} {n:Nat} (hty:iP P ty) (htb:fM P tb) (hf:P.funcs[f]? =some fn) (hb:fn.body=some c) (hn:fn.ntmps=n)
 (h:∀ x,T.pre x->(T.enc x).length<=n/\∀ stop,Stop P ty tb n (drawn ty tb n) (lu (Ap ty fn.results.toList T.al (T.res x))) stop->stop [.code c] (St.begin (T.enc x))):Valid P f T.sp:=
 aaT hty htb hf hb hn (λa=>T.enc (T.dec a)) (λ_ ha=>⟨ha.1,(h _ ha.2).1,(h _ ha.2).2⟩)
theorem aaU {α:Type} {P:Program} {f:Nat} {T:uJ α} (h:∀ x,¬ T.pre x):Valid P f T.sp:=
 λS0 w args vs h1 h2 h3 h4=>absurd h4.2 (h _)
theorem fM.nil {P:Program}:fM P (lk []):=λ_ _ h=>by cases h
theorem fM.cons {P:Program} {l:List (Nat×fO)} {f:Nat} {sp:fO} (hx:aF P f sp) (h:fM P (lk l)):fM P (lk ((f,sp)::l)):=λg s hs=>by
 simp only [lk] at hs
 split at hs
 ·rename_i e; subst e; obtain rfl:=Option.some.inj hs; exact hx
 exact h g s hs
theorem H7 {α:Type} [Inhabited α] (s:Nat) (f:α->List D) (l:List α):(aj s f l).len=l.length:=rfl
theorem Rj {α:Type} [Inhabited α] (s:Nat) (f:α->List D) (l:List α):(aj s f l).stride=s:=rfl
theorem Rk {α:Type} [Inhabited α] (s:Nat) (f:α->List D) (l:List α) (i:Nat):(aj s f l).nth i=f (l.getD i default):=rfl
theorem aah {α:Type} [Inhabited α] (s:Nat) (f:α->List D) (l:List α):(aj s f l).cu=true:=rfl
theorem iI {α:Type} [Inhabited α] (g:List D->α) (s:Nat) (f:α->List D) (l:List α) (h:∀ a,g (f a)=a):aN g (aj s f l)=l:=by
 simp only [aN,H7,Rk,h]
 apply List.ext_getElem (by simp)
 intro i h1 h2
 simp [List.getD_eq_getElem?_getD,h2]
theorem Rn {α:Type} (g:List D->α) (s:Nat) (l:List (List D)):aN g (D.ofList s l)=l.map g:=by
 simp only [aN,D.ofList,D.len,D.nth]
 apply List.ext_getElem (by simp)
 intro i h1 h2
 simp at h2
 simp [List.getD_eq_getElem?_getD,h2]
theorem awi (n:Int):iD (dI n)=n:=rfl
theorem amc (l:List Int):aN iD (eI l)=l:=iI _ _ _ _ awi
theorem Vj {α:Type} [Inhabited α] {s:Nat} {f:α->List D} {l:List (List D)} {r:List α} (h:l=r.map f):oH (D.ofList s l) (aj s f r):=by
 subst h
 refine ou.eqv (ou.acE rfl rfl rfl (by simp [D.ofList,D.len,aj]) (λi hi=> ?_))
 simp only [D.ofList,D.len,List.length_map] at hi
 simp [D.ofList,D.nth,aj,List.getD_eq_getElem?_getD,hi]
attribute [go_sem] List.map_cons List.map_nil true_and and_true beq_iff_eq implies_true imp_self or_true true_or or_false false_or and_self List.append_nil List.nil_append List.cons_append List.filterMap_nil List.filterMap_cons Option.toList_none Option.toList_some List.nodup_nil List.not_mem_nil List.length_cons List.length_nil List.getD_cons_zero List.getD_cons_succ not_false_eq_true false_implies true_implies cond_true cond_false List.zip_cons_cons List.zip_nil_left
attribute [go_sem] List.getElem?_cons_zero List.getElem?_cons_succ List.getElem?_nil List.all_cons List.all_nil Bool.and_true Bool.true_and Bool.and_self Bool.and_false Bool.false_and List.drop_zero List.drop_succ_cons List.drop_nil List.take_zero List.take_succ_cons List.take_nil and_false false_and Nat.zero_add List.getD_nil Nat.add_zero List.foldl_cons List.foldl_nil
theorem ahS (a b:Bool):(bif a then b else false)=(a && b):=by cases a<;>rfl
theorem amm (a b:Bool):(bif a then true else b)=(a || b):=by cases a<;>rfl
theorem N7 (a b:Int):((a != b)=true)=(a≠b):=by simp
theorem Jt (a b:Int):((a != b)=false)=(a=b):=by simp
theorem NT (p:Prop) [Decidable p]:(decide p=true)=p:=by simp
theorem Js (p:Prop) [Decidable p]:(decide p=false)=¬p:=by simp
attribute [go_sem] ahS amm N7 Jt NT Js Int.toNat_natCast
theorem Ee {α:Type} [Inhabited α] {s:Nat} {f:α->List D} {l:List (List D)} {r:List α} (h:l=r.map f):oH (D.ofList s l) (aj s f r)=True:=eq_true (Vj h)
attribute [go_sem] Ee drawn H7 Rj Rk aah dI amc Rn iD
end Go.dR
set_option linter.unusedVariables false
set_option linter.unusedSimpArgs false
namespace Go.dR
inductive eY (σ ρ:Type) where
 | next (s:σ)
 | out (r:Option ρ)
def aK {σ ρ:Type} (B:σ->eY σ ρ):Nat->σ->Option ρ
 | 0,_=>none
 | n+1,s=>match B s with
  | .next s'=>aK B n s'
  | .out r=>r
def nS {σ ρ:Type} (nx:σ->Prop) (G:ρ->Prop):eY σ ρ->Prop
 | .next s=>nx s
 | .out (some q)=>G q
 | .out none=>False
def aW {α σ ρ:Type} (o:Option α) (f:α->eY σ ρ):eY σ ρ:=
 match o with
 | none=> .out none
 | some v=>f v
section
variable {α σ ρ:Type} {nx:σ->Prop} {G:ρ->Prop}
theorem aP {p:Prop} [Decidable p] {a:Option ρ} {r:ρ} (h:(if p then a else none)=some r):p/\a=some r:=by
 split at h
 ·exact ⟨‹_›,h⟩
 cases h
theorem aB {o:Option α} {f:α->Option ρ} {r:ρ} (h:o.bind f=some r):∃ v,o=some v/\f v=some r:=by
 cases o with
 | none=>cases h
 | some v=>exact ⟨v,rfl,h⟩
theorem aH {p:Prop} [Decidable p] {a:eY σ ρ} (h:nS nx G (if p then a else .out none)):p/\nS nx G a:=by
 split at h
 ·exact ⟨‹_›,h⟩
 exact h.elim
theorem bf {o:Option α} {f:α->eY σ ρ} (h:nS nx G (aW o f)):∃ v,o=some v/\nS nx G (f v):=by
 cases o with
 | none=>exact h.elim
 | some v=>exact ⟨v,rfl,h⟩
theorem bT {E:Option ρ} {r:ρ} (h:nS nx (λq=>q=r) (.out E)):E=some r:=by
 cases E with
 | none=>exact h.elim
 | some q=>exact congrArg some h
theorem lW {q:ρ} (h:nS nx G (.out (some q))):G q:=h
theorem zW {E:Option (eY σ ρ)} (h:nS nx G (E.getD (.out none))):∃ q,E=some q/\nS nx G q:=by
 cases E with
 | none=>exact h.elim
 | some q=>exact ⟨q,rfl,h⟩
end
section
variable {P:Program} {ty:iT} {tb:qj} {n:Nat} {draw:List Oper->St->Prop} {fin':Eu->St->Prop} {stop:List K->St->Prop} {k:List K} {st:St} {fG:List AV}
theorem Stop.iter (S:Stop P ty tb n draw fin' stop fG) {c:Code} {σ ρ:Type} (head:σ->St) (B:σ->eY σ ρ) (G:ρ->Prop) {fuel:Nat} {s:σ} {q:ρ} (hq:aK B fuel s=some q) (hG:G q)
 (round:∀ s,nS (λs'=>stop (.lp c::k) (head s')) G (B s)->stop (.code c:: .lp c::k) (head s)):stop (.lp c::k) (head s):=by
 induction fuel generalizing s with
 | zero=>cases hq
 | succ m ih=>
  simp only [aK] at hq
  refine S.lp (round s ?_)
  cases hB:B s with
  | next s'=>rw [hB] at hq; exact ih hq
  | out r=>rw [hB] at hq; subst hq; exact hG
end
section
variable {α:Type} [Inhabited α] {s:Nat} {f:α->List D} {g:List D->α}
theorem oH.trans {a b c:D} (h:oH a b) (k:oH b c):oH a c:=by
 induction h generalizing c with
 | refl d=>exact k
 | nil s s' g g'=>
  cases k with
  | refl=>exact .nil _ _ _ _
  | nil=>exact .nil _ _ _ _
  | sl s n g g' hl he=>exact .nil _ _ _ _
 | sl s n g g' hl he ih=>
  cases k with
  | refl=>exact .sl _ _ _ _ hl he
  | nil=>exact .nil _ _ _ _
  | sl _ _ _ g2 hl2 he2=>exact .sl _ _ _ _ (λi hi=>(hl i hi).trans (hl2 i hi)) (λi j hi hj=>ih i j hi hj (he2 i j hi hj))
 | rO l l'=>
  cases k with
  | refl=>exact .rO _ _
  | rO=>exact .rO _ _
  | pt=>exact .rO _ _
 | Qd s g=>
  cases k with
  | refl=>exact .Qd _ _
  | nil=>exact .Qd _ _
  | sl=>exact .Qd _ _
 | pt b l l' hl he ih=>
  cases k with
  | refl=>exact .pt _ _ _ hl he
  | rO=>exact .rO _ _
  | pt _ _ l2 hl2 he2=>exact .pt _ _ _ (hl.trans hl2) (λj hj=>ih j hj (he2 j (by rw [<- hl]; exact hj)))
def oh (x y:List D):Prop:=x.length=y.length/\∀ j:Nat,oH (x.getD j .undef) (y.getD j .undef)
theorem oh.refl (x:List D):oh x x:=⟨rfl,λ_=> .refl _⟩
theorem gY:∀ {x y:List D},jd x y->oh x y
 | [],[],_=> .refl _
 | [],_::_,h=>h.elim
 | _::_,[],h=>h.elim
 | a::x,b::y,h=>by
  obtain ⟨h1,h2⟩:=gY h.2
  refine ⟨by simp [h1],λj=> ?_⟩
  cases j with
  | zero=>simpa using h.1
  | succ j=>simpa using h2 j
def pY:List (List D)->List (List D)->Prop
 | [],[]=>True
 | x::r,y::s=>jd x y/\pY r s
 | _,_=>False
theorem KC:∀ {x y:List (List D)},pY x y->x.length=y.length/\∀ i:Nat,oh (x.getD i []) (y.getD i [])
 | [],[],_=>⟨rfl,λ_=> .refl _⟩
 | [],_::_,h=>h.elim
 | _::_,[],h=>h.elim
 | a::x,b::y,h=>by
  obtain ⟨h1,h2⟩:=KC h.2
  refine ⟨by simp [h1],λj=> ?_⟩
  cases j with
  | zero=>simpa using gY h.1
  | succ j=>simpa using h2 j
def Can (s:Nat) (f:α->List D) (l:List α) (d:D):Prop:=d.cu=true/\d.stride=s/\d.len=l.length/\∀ i,i<l.length->oh (d.nth i) (f (l.getD i default))
def OA (f:α->List D) (l:List α) (d:D):Prop:=d.len=l.length/\∀ i,i<l.length->oh (d.nth i) (f (l.getD i default))
theorem Can.w {l:List α} {d:D} (h:Can s f l d):OA f l d:=h.2.2
theorem HY {l:List α} {d:D} (h:Can s f l d):ou d (aj s f l)=True:=
 eq_true ⟨h.1,rfl,h.2.1,h.2.2.1,λi hi=>h.2.2.2 i (by rw [<- h.2.2.1]; exact hi)⟩
theorem jP {l:List α} {d:D} (h:Can s f l d):oH d (aj s f l)=True:=eq_true (ou.eqv (of_eq_true (HY h)))
theorem wZ (l:List α):Can s f l (aj s f l)=True:=eq_true ⟨rfl,rfl,rfl,λ_ _=> .refl _⟩
theorem aeP {s':Nat} (l:List α):OA f l (aj s' f l)=True:=eq_true ⟨rfl,λ_ _=> .refl _⟩
theorem Ig {l:List α} {cs:List (List D)} (h:pY cs (l.map f)):Can s f l (D.ofList s cs)=True:=by
 obtain ⟨h1,h2⟩:=KC h
 refine eq_true ⟨rfl,rfl,by simpa [D.ofList,D.len] using h1,λi hi=> ?_⟩
 have:=h2 i
 simpa [D.ofList,D.nth,List.getD_eq_getElem?_getD,hi] using this
theorem gQ {s':Nat} {l:List α} {cs:List (List D)} (h:pY cs (l.map f)):OA f l (D.ofList s' cs)=True:=eq_true (Can.w (of_eq_true (Ig (s:=s') h)))
theorem ahO (k:Nat->List D):Can s f ([]:List α) (.sl s 0 k)=True:=eq_true ⟨rfl,rfl,rfl,λi hi=>absurd hi (by simp)⟩
theorem aeO {s':Nat} (k:Nat->List D):OA f ([]:List α) (.sl s' 0 k)=True:=eq_true ⟨rfl,λi hi=>absurd hi (by simp)⟩
theorem Ru {l r:List α} {x y:D} (hx:OA f l x) (hy:OA f r y):OA f (l++r) (D.cat x y):=by
 refine ⟨by simp [D.cat,D.len]; rw [<- hx.1, <- hy.1]; rfl,λi hi=> ?_⟩
 have hn:(D.cat x y).nth i=if i<x.len then x.nth i else y.nth (i - x.len):=rfl
 rw [hn,hx.1]
 simp only [List.length_append] at hi
 split
 ·rename_i h
  have:=hx.2 i h
  simpa [List.getD_eq_getElem?_getD,List.getElem?_append_left h,h] using this
 rename_i h
 have:=hy.2 (i - l.length) (by omega)
 simpa [List.getD_eq_getElem?_getD,List.getElem?_append_right (Nat.le_of_not_lt h)] using this
theorem mQ {l r:List α} {x y:D} (hx:Can s f l x) (hy:OA f r y):Can s f (l++r) (D.cat x y)=True:=
 eq_true ⟨rfl,hx.2.1,Ru hx.w hy⟩
theorem aeN {r:List α} {x y:D} (hx:Can s f ([]:List α) x) (hy:OA f r y):Can s f r (D.cat x y)=True:=
 eq_true ⟨rfl,hx.2.1,by have h9:=Ru hx.w hy; rw [List.nil_append] at h9; exact h9⟩
theorem oh.splice {x y:List D} (h:oh x y) (o:Nat) (c:List D):oh (splice x o c) (splice y o c):=by
 obtain ⟨h1,h2⟩:=h
 refine ⟨by simp [Go.dR.splice,h1],λj=> ?_⟩
 have hg:∀ z:List D,(Go.dR.splice z o c).getD j .undef=if j<min o z.length then z.getD j .undef else if j<min o z.length+c.length then c.getD (j - min o z.length) .undef else z.getD (o+c.length+(j - (min o z.length+c.length))) .undef:=by
  intro z
  simp only [Go.dR.splice,List.getD_eq_getElem?_getD,List.append_assoc,List.getElem?_append,List.length_take,List.getElem?_take,List.getElem?_drop]
  split
  ·rename_i hh; rw [if_pos (by omega)]
  rename_i hh
  split
  ·rename_i h3; rw [if_pos (by omega)]
  rename_i h3; rw [if_neg (by omega)]; congr 3; omega
 rw [hg x,hg y,h1]
 split
 ·exact h2 j
 split
 ·exact .refl _
 exact h2 _
theorem ahM {l:List α} {x:D} {i o:Nat} {c:List D} {a:α} (hx:Can s f l x) (hc:jd (splice (f (l.getD i default)) o c) (f a)):Can s f (l.set i a) (x.setAt i o c)=True:=by
 refine eq_true ⟨rfl,hx.2.1,by simp only [D.setAt,D.len,List.length_set]; exact hx.2.2.1,λj hj=> ?_⟩
 have hn:(x.setAt i o c).nth j=if j=i then splice (x.nth i) o c else x.nth j:=rfl
 rw [hn]
 simp only [List.length_set] at hj
 split
 ·rename_i h; subst h
  have e:((l.set j a).getD j default)=a:=by simp [List.getD_eq_getElem?_getD,hj]
  rw [e]
  have h1:=(hx.2.2.2 j hj).splice o c
  have h2:=gY hc
  exact ⟨h1.1.trans h2.1,λq=>(h1.2 q).trans (h2.2 q)⟩
 rename_i h
 have:=hx.2.2.2 j hj
 simpa [List.getD_eq_getElem?_getD,List.getElem?_set,Ne.symm h] using this
theorem aeM {l:List α} {x:D} {i:Nat} {c:List D} {a:α} (hx:Can s f l x) (hn:(f (l.getD i default)).length=c.length) (hc:jd c (f a)):Can s f (l.set i a) (x.setAt i 0 c)=True:=by
 have e:splice (f (l.getD i default)) 0 c=c:=by
  simp only [splice,List.take_zero,List.nil_append,Nat.zero_add]
  rw [List.drop_eq_nil_of_le (by omega),List.append_nil]
 refine eq_true ⟨rfl,hx.2.1,by simp only [D.setAt,D.len,List.length_set]; exact hx.2.2.1,λj hj=> ?_⟩
 have hn:(x.setAt i 0 c).nth j=if j=i then splice (x.nth i) 0 c else x.nth j:=rfl
 rw [hn]
 simp only [List.length_set] at hj
 split
 ·rename_i h; subst h
  have e2:((l.set j a).getD j default)=a:=by simp [List.getD_eq_getElem?_getD,hj]
  rw [e2]
  have h1:=(hx.2.2.2 j hj).splice 0 c
  rw [e] at h1
  have h2:=gY hc
  exact ⟨h1.1.trans h2.1,λq=>(h1.2 q).trans (h2.2 q)⟩
 rename_i h
 have:=hx.2.2.2 j hj
 simpa [List.getD_eq_getElem?_getD,List.getElem?_set,Ne.symm h] using this
theorem NY {l:List α} {x:D} {lo hi':Nat} (hx:Can s f l x) (h:hi'<=l.length):Can s f ((l.drop lo).take (hi' - lo)) (x.sub lo hi')=True:=by
 refine eq_true ⟨rfl,hx.2.1,by simp [D.sub,D.len]; omega,λi hi=> ?_⟩
 simp only [List.length_take,List.length_drop] at hi
 show oh (x.nth (lo+i)) _
 have:=hx.2.2.2 (lo+i) (by omega)
 have h2:i<hi' - lo:=by omega
 simpa [List.getD_eq_getElem?_getD,List.getElem?_take,h2] using this
theorem ahN {n:Nat} {a:α} {c:List D} (h:jd c (f a)):Can s f (List.replicate n a) (D.rep s n c)=True:=by
 refine eq_true ⟨rfl,rfl,by simp [D.rep,D.len],λi hi=> ?_⟩
 simp only [List.length_replicate] at hi
 show oh c _
 have:=gY h
 simpa [List.getD_eq_getElem?_getD,hi] using this
theorem aec {s':Nat} (k:Nat->List D):oH (.sl s' 0 k) (aj s f ([]:List α))=True:=eq_true (.nil _ _ _ _)
omit [Inhabited α] in
theorem dZ (x:D):(aN g x).length=x.len:=by simp [aN]
omit [Inhabited α] in
theorem aer (x y:D):aN g (D.cat x y)=aN g x++aN g y:=by
 apply List.ext_getElem
 ·simp [aN,D.cat,D.len]
 intro i h1 h2
 simp only [aN,List.getElem_map,List.getElem_range]
 have hn:(D.cat x y).nth i=if i<x.len then x.nth i else y.nth (i - x.len):=rfl
 rw [hn,List.getElem_append]
 split
 ·rename_i h
  rw [dif_pos (by simpa [aN] using h)]
  simp [aN]
 rename_i h
 rw [dif_neg (by simpa [aN] using h)]
 simp [aN]
omit [Inhabited α] in
theorem Vq (x:D) (i o:Nat) (c:List D):aN g (x.setAt i o c)=(aN g x).set i (g (splice (x.nth i) o c)):=by
 apply List.ext_getElem
 ·simp [aN,D.setAt,D.len]
 intro j h1 h2
 simp only [aN,List.getElem_map,List.getElem_range,List.getElem_set]
 have hn:(x.setAt i o c).nth j=if j=i then splice (x.nth i) o c else x.nth j:=rfl
 rw [hn]
 by_cases h:j=i
 ·subst h; simp
 rw [if_neg h,if_neg (Ne.symm h)]
omit [Inhabited α] in
theorem aeo (s' n:Nat) (c:List D):aN g (D.rep s' n c)=List.replicate n (g c):=by
 apply List.ext_getElem
 ·simp [aN,D.rep,D.len]
 intro j h1 h2
 simp [aN,D.rep,D.nth]
omit [Inhabited α] in
theorem aep (s':Nat) (k:Nat->List D):aN g (.sl s' 0 k)=[]:=rfl
theorem oN (x y:D):(D.cat x y).len=x.len+y.len:=rfl
theorem aeE (x y:D):(D.cat x y).cu=true:=rfl
theorem qc (x y:D):(D.cat x y).stride=x.stride:=rfl
theorem Uj (s:Nat) (l:List (List D)):(D.ofList s l).len=l.length:=rfl
theorem Qa (s:Nat) (l:List (List D)):(D.ofList s l).cu=true:=rfl
theorem Jf (s:Nat) (l:List (List D)):(D.ofList s l).stride=s:=rfl
theorem JE (x:D) (i o:Nat) (c:List D):(x.setAt i o c).len=x.len:=rfl
theorem Tz (x:D) (i o:Nat) (c:List D):(x.setAt i o c).cu=true:=rfl
theorem sZ (x:D) (i o:Nat) (c:List D):(x.setAt i o c).stride=x.stride:=rfl
theorem af4 (x:D) (a b:Nat):(x.sub a b).len=b - a:=rfl
theorem abd (x:D) (a b:Nat):(x.sub a b).cu=true:=rfl
theorem Tt (x:D) (a b:Nat):(x.sub a b).stride=x.stride:=rfl
theorem agl (s n:Nat) (c:List D):(D.rep s n c).len=n:=rfl
theorem aby (s n:Nat) (c:List D):(D.rep s n c).cu=true:=rfl
theorem TM (s n:Nat) (c:List D):(D.rep s n c).stride=s:=rfl
theorem aj6 (s n:Nat) (k:Nat->List D):(D.sl s n k).len=n:=rfl
theorem aga (s n:Nat) (k:Nat->List D):(D.sl s n k).cu=true:=rfl
theorem YN (s n:Nat) (k:Nat->List D):(D.sl s n k).stride=s:=rfl
theorem rY {l:List α} (h:∀ a,(f a).all D.scalar=true):(aj s f l).flat=True:=eq_true (λi _=>h _)
end
def yM {α:Type} [Inhabited α] (f:α->List D) (o:Option α):D:= .pt o.isSome (f (o.getD default))
def decP {α:Type} (g:List D->α):D->Option α
 | .pt true l=>some (g l)
 | _=>none
theorem aan {α:Type} (g:List D->α) (l:List D):decP g (.pt true l)=some (g l):=rfl
theorem Vp {α:Type} (g:List D->α) (l:List D):decP g (.pt false l)=none:=rfl
theorem sF {α:Type} [Inhabited α] {g:List D->α} {f:α->List D} (h:∀ a,g (f a)=a) (o:Option α):decP g (.pt o.isSome (f (o.getD default)))=o:=by
 cases o with
 | none=>rfl
 | some a=>simp [decP,h]
theorem aaf {α:Type} [Inhabited α] (f:α->List D) (a:α):yM f (some a)= .pt true (f a):=rfl
theorem aag {α:Type} [Inhabited α] (f:α->List D):yM f none= .pt false (f default):=rfl
theorem aeb {l l':List D}:oH (.pt false l) (.pt false l')=True:=eq_true (.rO _ _)
theorem al9 {α:Type} [Inhabited α] {s:Nat} {f:α->List D}:oH .nl (aj s f ([]:List α))=True:=eq_true (.Qd _ _)
def Jv {α:Type} [Inhabited α] (t:Nat) (f:α->List D) (l:List (List α)) (d:D):Prop:=
 d.cu=true/\d.stride=1/\d.len=l.length/\∀ i,i<l.length->(d.nth i).length=1/\ou (yd d i) (aj t f (l.getD i []))
theorem aef {α:Type} [Inhabited α] {t:Nat} {f:α->List D} {F:List α->List D} (hF:∀ a,F a=[aj t f a]) {l:List (List α)} {d:D} (h:Jv t f l d):Oy d (aj 1 F l)=True:=
 eq_true ⟨h.1,rfl,h.2.1,h.2.2.1,λi hi=>by
  obtain ⟨h1,h2⟩:=h.2.2.2 i (by rw [<- h.2.2.1]; exact hi)
  have e:(aj 1 F l).nth i=[aj t f (l.getD i [])]:=hF _
  unfold yd at h2 ⊢
  rw [e]
  exact ⟨h1,h2⟩⟩
theorem aeS {α:Type} [Inhabited α] {t:Nat} {f:α->List D} {F:List α->List D} (hF:∀ a,F a=[aj t f a]) (l:List (List α)):Jv t f l (aj 1 F l)=True:=
 eq_true ⟨rfl,rfl,rfl,λi hi=>by
  have e:(aj 1 F l).nth i=[aj t f (l.getD i [])]:=hF _
  unfold yd
  rw [e]
  exact ⟨rfl,.refl rfl⟩⟩
theorem KL {α:Type} [Inhabited α] {t n:Nat} {f:α->List D}:Jv t f (List.replicate n []) (D.dF t n)=True:=
 eq_true ⟨rfl,rfl,by simp [D.dF,D.len],λi hi=>by
  refine ⟨rfl,rfl,rfl,rfl,?_,λj hj=>absurd hj (by simp [yd,D.dF,D.nth,D.len])⟩
  simp only [List.length_replicate] at hi
  simp [yd,D.dF,D.nth,D.len,aj,List.getD_eq_getElem?_getD,hi]⟩
theorem aeR {α:Type} [Inhabited α] {t:Nat} {f:α->List D}:Jv t f ([]:List (List α)) (D.dF t 0)=True:=KL (n:=0)
theorem aeT {α:Type} [Inhabited α] {t:Nat} {f:α->List D} {l:List (List α)} {d:D} (h:Jv t f l d):Jv t f (l++[[]]) (d.app [.sl t 0 λ_=>[]])=True:=
 eq_true ⟨rfl,h.2.1,by simp only [D.app,D.len,List.length_append,List.length_cons,List.length_nil]; exact congrArg (· +1) h.2.2.1,λi hi=>by
  have e:(d.app [.sl t 0 λ_=>[]]).nth i=if i=d.len then [.sl t 0 λ_=>[]] else d.nth i:=rfl
  simp only [List.length_append,List.length_cons,List.length_nil] at hi
  unfold yd
  rw [e]
  have hd:=h.2.2.1
  by_cases ei:i=d.len
  ·rw [if_pos ei]
   subst ei
   rw [hd]
   refine ⟨rfl,?_⟩
   have e2:(l++[[]]).getD l.length []=[]:=by simp [List.getD_eq_getElem?_getD]
   rw [e2]
   exact ⟨rfl,rfl,rfl,rfl,λj hj=>absurd hj (by simp [D.len])⟩
  rw [if_neg ei]
  have e2:(l++[[]]).getD i []=l.getD i []:=by simp [List.getD_eq_getElem?_getD,List.getElem?_append_left (show i<l.length by omega)]
  rw [e2]
  exact h.2.2.2 i (by omega)⟩
theorem aeQ {α:Type} [Inhabited α] {t i:Nat} {f:α->List D} {l:List (List α)} {a:List α} {d c:D} (h:Jv t f l d) (hc:Can t f a c):Jv t f (l.set i a) ((d.setAt i 0 [.undef]).setAt i 0 [c])=True:=
 eq_true ⟨rfl,h.2.1,by simp only [D.setAt,D.len,List.length_set]; exact h.2.2.1,λj hj=>by
  simp only [List.length_set] at hj
  obtain ⟨g1,g2⟩:=h.2.2.2 j hj
  by_cases ei:j=i
  ·subst ei
   have e0:((d.setAt j 0 [.undef]).nth j).length=1:=by rw [wG g1 g1]
   refine ⟨wG e0 e0,?_⟩
   rw [FN e0,if_pos rfl]
   have e2:(l.set j a).getD j []=a:=by simp [List.getD_eq_getElem?_getD,hj]
   rw [e2]
   exact of_eq_true (HY hc)
  have e3:((d.setAt i 0 [.undef]).setAt i 0 [c]).nth j=d.nth j:=by
   show (if j=i then _ else (if j=i then _ else d.nth j))=_
   rw [if_neg ei,if_neg ei]
  unfold yd at g2 ⊢
  rw [e3]
  have e2:(l.set i a).getD j []=l.getD j []:=by simp [List.getD_eq_getElem?_getD,List.getElem?_set,Ne.symm ei]
  rw [e2]
  exact ⟨g1,g2⟩⟩
theorem Ld (s n:Nat):aff (D.rep s n [.nl])=True:=eq_true (λ_ _=>rfl)
theorem acI (t n:Nat):(D.dF t n).len=n:=rfl
theorem ahX (x:D) (c:List D):(x.app c).len=x.len+1:=rfl
theorem al8 {b:Bool} {l l':List D} (h:jd l l'):oH (.pt b l) (.pt b l')=True:=eq_true (.pt _ _ _ (gY h).1 (λj _=>(gY h).2 j))
attribute [go_sem] al9 KL aeR aeT aeQ Ld acI ahX yd
attribute [go_sem] aan Vp aaf aag aeb al8
def sH:List Arg->Nat->Nat->Bool
 | .clo g _::_,0,f=>g == f
 | _::r,i+1,f=>sH r i f
 | _,_,_=>false
theorem ahG (x:D) (r:List Arg) (i f:Nat):sH (.c x::r) (i+1) f=sH r i f:=(rfl)
theorem ahH (l:List D) (r:List Arg) (i f:Nat):sH (.agg l::r) (i+1) f=sH r i f:=(rfl)
theorem ahF (l:List D) (r:List Arg) (i f:Nat):sH (.ptr l::r) (i+1) f=sH r i f:=(rfl)
theorem ahI (g f:Nat) (c:List (List D)) (r:List Arg):sH (.clo g c::r) 0 f=(g == f):=(rfl)
def fO.or (i f:Nat) (a b:fO):fO:=⟨λx=>bif sH x i f then a.pre x else b.pre x,λx=>bif sH x i f then a.res x else b.res x,a.alias⟩
theorem ak0 (i f:Nat) (a b:fO) (x:List Arg):(fO.or i f a b).pre x=bif sH x i f then a.pre x else b.pre x:=(rfl)
theorem akZ (i f:Nat) (a b:fO) (x:List Arg):(fO.or i f a b).res x=bif sH x i f then a.res x else b.res x:=(rfl)
theorem avc (i f:Nat) (a b:fO):(fO.or i f a b).alias=a.alias:=(rfl)
attribute [go_sem] ahG ahH ahF ahI ak0 akZ avc
theorem aF.or {P:Program} {g i f:Nat} {a b:fO} (ha:aF P g a) (hb:aF P g b) (e:a.alias=b.alias):aF P g (fO.or i f a b):=
 ⟨ha.enter,λS0 w args vs h1 h2 h3 h4=>by
  cases hc:sH args i f with
  | true=>
   have h4:a.pre args:=by simpa only [fO.or,hc,cond_true] using h4
   refine (ha.valid S0 w args vs h1 h2 h3 h4).mono ?_
   rintro o w' ⟨v,rfl,L⟩
   exact ⟨v,rfl, { L with res:=by simpa only [fO.or,hc,cond_true] using L.res }⟩
  | false=>
   have h4:b.pre args:=by simpa only [fO.or,hc,cond_false] using h4
   refine (hb.valid S0 w args vs h1 h2 h3 h4).mono ?_
   rintro o w' ⟨v,rfl,L⟩
   exact ⟨v,rfl, { L with res:=by simpa only [fO.or,hc,cond_false,e] using L.res }⟩⟩
def afg:List Arg->Nat->Nat->D
 | [],_,_=> .undef
 | .c x::_,0,_=>x
 | .agg l::_,0,j=>l.getD j .undef
 | .ptr l::_,0,j=>l.getD j .undef
 | .clo _ caps::_,0,j=>caps.flatten.getD j .undef
 | _::r,i+1,j=>afg r i j
def aC:D->Int | .int _ n=>n | _=>0
def aeu:D->Bool | .bool b=>b | _=>false
def aes:D->ByteArray | .str s=>s | _=> .empty
def dFn:D->Nat | .fn f=>f | _=>0
attribute [go_sem] afg aC aeu aes dFn Yo aec wZ aeP ahO aeO aer Vq aeo aep oN aeE qc Uj Qa Jf JE Tz sZ af4 abd Tt agl aby TM aj6 aga YN
 List.flatten_cons List.flatten_nil and_assoc Option.isSome_some
end Go.dR
set_option linter.unusedVariables false
set_option linter.unusedSimpArgs false
namespace Go.dR
section
variable {P:Program} {ty:iT} {tb:qj} {n:Nat} {draw:List Oper->St->Prop} {fin':Eu->St->Prop} {stop:List K->St->Prop} {k:List K} {st:St} {fG:List AV}
theorem Stop.awP (S:Stop P ty tb n draw fin' stop fG) {id:Nat} {o1 o2:Oper} (t d1 d2 T T' e:Nat) {x:D} {i:TI}
 (h1:o1.op= .move (.tmp t)) (h1d:o1.dst=some d1) (h1g:o1.guard=none) (h2:o2.op= .binOp .eql T (.tmp d1) (.const (.slice none 0 0)) T') (h2d:o2.dst=some d2) (h2g:o2.guard=none)
 (hT:ty T=some i) (hi:i.desc= .slice e) (ht:lk st.sl t=some (.c (.d x))) (hx:x.cu=true) (hd1:d1<n) (hd2:d2<n)
 (h:∀ b:Bool,(b=true->x.len=0)->stop k ((st.slot d1 (.c (.d x))).slot d2 (.c (.d (.bool b))))):stop (.code (.region id #[o1,o2] false)::k) st:=by
 obtain ⟨cx,Q,ρ,rfl,hs,hty,htb,hd0,hfin,hrd,rfl⟩:=S.ex
 intro m a w R
 refine wpIn_region ?_
 show wpOpsIn (FR ρ) 0 P #[o1,o2] (sJ P ρ k Q) [0,1] a w
 obtain ⟨_,hv⟩:=R.slots t _ ht
 have R1:=R.slot (t:=d1) (v:= .c (.d x)) (u:=a.tmps.getD t undef) hd1 hv
 simp only [wpOpsIn]
 have w1:Region.wanted o1 (yielded #[o1,o2] a.tmps)=true:=by simp [Region.wanted,h1g]
 simp only [List.getElem?_toArray,List.getElem?_cons_zero,List.getElem?_cons_succ]
 rw [if_pos w1]
 refine lI (λc e=>by rw [h1] at e; cases e) ?_
 unfold Oper.wp
 have e1:(execOp a.eval o1).run P w= .ok (.value (a.tmps.getD t undef)) w:=by simp [execOp,h1,Act.eval]
 rw [e1,Oper.upon_value,h1d]
 have w2:∀ a':Act,Region.wanted o2 (yielded #[o1,o2] a'.tmps)=true:=λa'=>by simp [Region.wanted,h2g]
 rw [if_pos (w2 _)]
 refine lI (λc e=>by rw [h2] at e; cases e) ?_
 have hx1:=R1.slots d1 (.c (.d x)) (by simp [St.slot,lk])
 generalize hq:(a.put (some d1) (a.tmps.getD t undef))=a1 at*
 obtain ⟨_,hx2⟩:=hx1
 have hdat:RD w (fP cx m) x (a1.tmps.getD d1 undef):=hx2
 generalize hu:a1.tmps.getD d1 undef=u at*
 have hsl:∃ ao l c,u= .slice ao l c/\(ao.isNone=true->x.len=0):=by
  cases hdat with
  | sl0 s g ao cap=>exact ⟨ao,0,cap,rfl,λ_=>rfl⟩
  | sl s n g B o cap f hn hcap hB hS hl hc hr=>exact ⟨_,_,_,rfl,λh=>by cases h⟩
  | _=>cases hx
 obtain ⟨ao,l,c,rfl,hao⟩:=hsl
 have aDx:P.underlying T=some (.slice e):=by rw [(hty T i hT).und,hi]
 have e2:(execOp a1.eval o2).run P w= .ok (.value (.bool ao.isNone)) w:=by
  simp [execOp,h2,Act.eval,hu,eqGuard,binOp,run_equal_slice_nil w T e ao l c aDx]
 unfold Oper.wp
 rw [e2,Oper.upon_value,h2d]
 exact h ao.isNone hao m _ w (R1.slot (t:=d2) (v:= .c (.d (.bool ao.isNone))) hd2 (RD.bool _))
def AQ (s:Nat) (w w':World) (v:Value):Prop:=
 dS w w'/\w.heap.size<=w'.heap.size/\(∀ B,B<w.heap.size->w'.heap[B]? =w.heap[B]?)/\
 (v= .slice none 0 0\/∃ B cap c T,v= .slice (some ⟨B,0,none⟩) 0 cap/\w.heap.size<=B/\B<w'.heap.size/\w'.heap[B]? =some (.cells c T (0,0))/\c.size=cap*s)
def ai8 (stop:List K->St->Prop) (k:List K) (t d kk s:Nat) (n:Int):Prop×St->Prop
 | (p,st1)=>p/\lk st1.sl t=some (.u (.c (.d (.int .i64 n))))/\lk st1.lb kk=none/\stop k ⟨(d,.c (.own kk))::st1.sl,st1.bx,(kk,.owned (.sl s 0 λ_=>[]))::st1.lb⟩
theorem Rel.awH {cx:Cx} {m:Mp} {a:Act} {w w':World} {st:St} (R:Rel cx st m a w) {s kk:Nat} {v:Value} (hk:lk st.lb kk=none) (h:AQ s w w' v) :
 ∃ m',Rel cx ⟨st.sl,st.bx,(kk,.owned (.sl s 0 λ_=>[]))::st.lb⟩ m' a w'/\RA cx m' w' (lk ((kk,fE.owned (.sl s 0 λ_=>[]))::st.lb)) (.c (.own kk)) v:=by
 obtain ⟨h1,h2,h3,h4⟩:=h
 have key:∀ ob:Option Nat,(∀ B,ob=some B->w.heap.size<=B/\B<w'.heap.size/\∃ c T,w'.heap[B]? =some (.cells c T (0,0)))->
  Rel cx ⟨st.sl,st.bx,(kk,.owned (.sl s 0 λ_=>[]))::st.lb⟩ ⟨λk=>(match (if k=kk then some (D.sl s 0 λ_=>[]) else none) with | some _=>(if k=kk then ob else none) | none=>m.own k),m.box,m.inn,m.mp⟩ a w':=by
  intro ob hob
  refine R.Xx (λk=>if k=kk then some (D.sl s 0 λ_=>[]) else none) (λk=>if k=kk then ob else none) h2 h1 h3 (λk x hx=> ?_) (λk hx=> ?_) (λk k' B e e'=> ?_)
  ·split at hx
   ·rename_i e; subst e
    obtain rfl:=Option.some.inj hx
    refine ⟨hk,aX _ _ _,rfl,λB hB=> ?_⟩
    simp only [if_true] at hB
    obtain ⟨g1,g2,c,T,g3⟩:=hob B hB
    exact ⟨g1,g2,c,T,g3,rfl,λi hi=>absurd hi (by simp [D.len])⟩
   cases hx
  ·split at hx
   ·cases hx
   rename_i e
   exact ⟨aS e,by simp [e]⟩
  split at e<;>split at e'
  ·rename_i q q'; rw [q,q']
  ·cases e'
  ·cases e
  cases e
 rcases h4 with rfl | ⟨B,cap,c,T,rfl,g1,g2,g3,g4⟩
 ·refine ⟨_,key none (λB h=>by cases h),?_⟩
  simp only [RA,RU,fD,aX,nN,if_true]
  exact ⟨trivial,rfl⟩
 refine ⟨_,key (some B) (λB' h=>by obtain rfl:=Option.some.inj h; exact ⟨g1,g2,c,T,g3⟩),?_⟩
 simp only [RA,RU,fD,aX,nN,if_true]
 exact ⟨cap,c,T,rfl,g3,g4,Nat.zero_le _⟩
theorem Stop.Rw (S:Stop P ty tb n draw fin' stop fG) {id:Nat} {ops:Array Oper} (i t d kk s:Nat) {o:Oper} {g:Nat} {fn:Func} {tys:Array Nat} {qn:Int}
 (ho:ops[i]? =some o) (hop:o.op= .call { callee:= .value (.func g),args:= #[.const (.slice none 0 0),.tmp t],argTypes:=tys }) (hg:o.guard=none) (hd:o.dst=some d) (hdn:d<n)
 (hf:P.funcs[g]? =some fn) (hnm:(fn.name == "runtime.NumGoroutine")=false) (hb:fn.body.isNone=false)
 (hC:∀ w:World,Calls P g #[.slice none 0 0,.int .i64 qn] w λe w'=>∃ v,e= .returned v/\AQ s w w' v)
 (h:ai8 stop (.ops ops (i+1)::k) t d kk s qn (iQ ty tb n (ops.toList.map (·.dst)) (ops.toList.take i) st)) :
 stop (.code (.region id ops false)::k) st:=by
 obtain ⟨cx,Q,ρ,rfl,hs,hty,htb,hd0,hfin,hrd,rfl⟩:=S.ex
 intro m a w R
 refine wpIn_region ?_
 have hi:i<ops.size:=(Array.getElem?_eq_some_iff.1 ho).1
 have hsplit:List.range ops.size=List.range i++i::gy ops (i+1):=by
  have e1:ops.size=i+((ops.size - (i+1))+1):=by omega
  conv=>lhs; rw [e1,List.range_add,List.range_succ_eq_map]
  simp only [gy,List.map_cons,List.map_map,Nat.add_zero]
  congr 2
  apply List.map_congr_left
  intro x _
  simp; omega
 rw [hsplit]
 have e:=rZ ty tb cx.nt ops.toList (ops.toList.take i) [] (ops.toList.drop i) st (by simp)
 have e2:(ops.toList.take i).length=i:=by simp; omega
 simp only [e2,List.length_nil,Nat.zero_add,List.map_id'] at e
 rw [<- e] at h
 generalize hq:lg ty tb cx.nt ops.toList (List.range i) st=q at h
 obtain ⟨p,st1⟩:=q
 obtain ⟨hp,hx,hk,h⟩:=h
 refine Ej hty htb (List.range i) st m a w R (by rw [hq]; exact hp) (λm1 a1 w1 R1=> ?_)
 rw [hq] at R1
 simp only [wpOpsIn,ho]
 rw [if_pos (by simp [Region.wanted,hg])]
 refine lI (λc e=>by rw [hop] at e; cases e) ?_
 have hxv:a1.eval (.tmp t)= .int .i64 qn:=jl (R1.slots t _ hx).2
 have jO:(execOp a1.eval o).run P w1= .ok (.enter g #[.slice none 0 0,.int .i64 qn]) w1:=by
  simp only [execOp,hop,resolve,Deferred.ofValue,Sem.run_bind,Sem.run_pure,Result.andThen_ok,invoke,Array.empty_append,Act.eval] at hxv ⊢
  simp only [List.map_toArray,List.map_cons,List.map_nil,Array.append_empty]
  have e3:a1.eval (.tmp t)= .int .i64 qn:=hxv
  have e4:a1.eval (.const (.slice none 0 0))= .slice none 0 0:=rfl
  rw [e3,e4]
  exact oJ hf hnm hb _
 unfold Oper.wp
 rw [jO,Oper.upon_enter]
 refine (hC w1).mono ?_
 rintro e w2 ⟨v,rfl,hL⟩
 obtain ⟨m2,R2,hr⟩:=R1.awH hk hL
 rw [hd]
 exact h m2 _ w2 (R2.slot (t:=d) (v:= .c (.own kk)) hdn hr)
attribute [go_sem] ai8
end
end Go.dR
set_option linter.unusedVariables false
set_option linter.unusedSimpArgs false
namespace Go.dR
variable {α σ ρ τ:Type}
def uN (g:τ->σ):eY τ ρ->eY σ ρ
 | .next t=> .next (g t)
 | .out r=> .out r
def dV (f:Int->τ->α->eY τ ρ) (e:τ->Option ρ):Int->List α->τ->Option ρ
 | _,[],t=>e t
 | i,x::r,t=>
  match f i t x with
  | .next t'=>dV f e (i+1) r t'
  | .out q=>q
theorem eU [Inhabited α] (l:List α) (B:σ->eY σ ρ) (mk:Int->τ->σ) (f:Int->τ->α->eY τ ρ) (e:τ->Option ρ) (hl:l.length<1000000000)
 (hstep:∀ (i:Nat) t,i<l.length->B (mk i t)=uN (mk (i+1)) (f i t (l.getD i default)))
 (hend:∀ t,B (mk l.length t)= .out (e t)) (t:τ):aK B 1000000000 (mk 0 t)=dV f e 0 l t:=by
 have key:∀ (k i fuel:Nat) (t:τ),i+k=l.length->k<fuel->aK B fuel (mk i t)=dV f e i (l.drop i) t:=by
  intro k
  induction k with
  | zero=>
   intro i fuel t hi hf
   obtain ⟨m,rfl⟩:∃ m,fuel=m+1:=⟨fuel - 1,by omega⟩
   have hi:i=l.length:=by omega
   subst hi
   simp [aK,hend,dV]
  | succ k ih=>
   intro i fuel t hi hf
   obtain ⟨m,rfl⟩:∃ m,fuel=m+1:=⟨fuel - 1,by omega⟩
   have hlt:i<l.length:=by omega
   have hd:l.drop i=l.getD i default::l.drop (i+1):=by
    rw [List.drop_eq_getElem_cons hlt]; simp [List.getD_eq_getElem?_getD,hlt]
   rw [hd]
   simp only [aK,hstep i t hlt,dV]
   cases hfx:f i t (l.getD i default) with
   | next t'=>
    have:=ih (i+1) m t' (by omega) (by omega)
    simpa [uN] using this
   | out q=>rfl
 have:=key l.length 0 1000000000 t (by omega) hl
 simpa using this
def dn (n lo hi:Int):Bool:=decide (lo<=n) && decide (n<=hi)
def bG (b:Bool) (e:Int):Int:=if b then 0 else e
def bC:List Int->Int
 | []=>0
 | x::r=>if x=0 then bC r else x
theorem wS (i:Nat) (h:i<1000000000):IntKind.i64.wrap ((i:Int)+1)=(i:Int)+1:=IntWalk.i64_in _ ⟨by omega,by omega⟩
theorem kK {i n:Nat} (h:i<n):(decide ((i:Int)<(n:Int)))=true:=by simpa using h
theorem iK {i n:Nat} (h:i<n):0<=(i:Int)/\(i:Int)<(n:Int):=⟨by omega,by omega⟩
theorem G7 (n:Nat):(decide ((n:Int)<(n:Int)))=false:=by simp
end Go.dR
set_option linter.unusedVariables false
set_option linter.unusedSimpArgs false
namespace Go.dR
def Eu.code:Eu->Code
 | .off=> .skip
 | .ret=> .ret
 | .exit id=> .exit id
def Gg:List Nat->List AV->List (Nat×AV)->List (Nat×AV)
 | p::ps,v::vs,sl=>Gg ps vs ((p,v)::sl)
 | _,_,sl=>sl
def rM:List Nat->List Value->Array Value->Array Value
 | p::ps,v::vs,t=>rM ps vs (t.setIfInBounds p v)
 | _,_,t=>t
theorem Gf:∀ (ps:List Nat) (vs:List Value) (t:Array Value),(ps.zip vs).foldl (λtmps (p:Nat×Value)=>tmps.setIfInBounds p.1 p.2) t=rM ps vs t
 | [],_,_=>rfl
 | _::_,[],_=>rfl
 | p::ps,v::vs,t=>by simp only [List.zip_cons_cons,List.foldl_cons,rM]; exact Gf ps vs _
theorem F9:∀ (ps:List Nat) (vs:List Value) (t:Array Value),(rM ps vs t).size=t.size
 | [],_,_=>rfl
 | _::_,[],_=>rfl
 | p::ps,v::vs,t=>by simp only [rM]; rw [F9]; simp
section
variable {P:Program} {ty:iT} {tb:qj} {cx:Cx} {st:St} {m m1 m':Mp} {a:Act} {w w':World} {o:Oper} {out:Out} {ws:List Wr} {ρ:Option Nat}
theorem JQ {lb:Nat->Option fE} {nt:Nat}:∀ {ps:List Nat} {vs:List AV} {us:List Value} {sl:List (Nat×AV)} {t:Array Value},t.size=nt->(∀ p∈ps,p<nt)->
 vs.length=us.length->(∀ i,i<vs.length->RA cx m w lb (vs.getD i default) (us.getD i undef))->(∀ s v,lk sl s=some v->s<nt/\RA cx m w lb v (t.getD s undef))->
 ∀ s v,lk (Gg ps vs sl) s=some v->s<nt/\RA cx m w lb v ((rM ps us t).getD s undef)
 | [],_,_,_,_,_,_,_,_,h=>by simpa only [Gg,rM] using h
 | _::_,[],[],_,_,_,_,_,_,h=>by simpa only [Gg,rM] using h
 | _::_,[],_::_,_,_,_,_,h,_,_=>by cases h
 | _::_,_::_,[],_,_,_,_,h,_,_=>by cases h
 | p::ps,x::vs,u::us,sl,t,hn,hp,hl,hv,h=>by
  simp only [Gg,rM]
  refine JQ (by simp [hn]) (λq hq=>hp q (List.mem_cons_of_mem _ hq)) (by simpa using hl) (λi hi=>by simpa using hv (i+1) (by simpa using hi)) (λs v hs=> ?_)
  simp only [lk] at hs
  split at hs
  ·rename_i e; subst e
   obtain rfl:=Option.some.inj hs
   have hlt:=hp p (List.mem_cons_self ..)
   refine ⟨hlt,?_⟩
   rw [Array.getD_eq_getD_getElem?,Array.getElem?_setIfInBounds_self_of_lt (by rw [hn]; exact hlt)]
   simpa using hv 0 (by simp)
  rename_i e
  obtain ⟨h1,h2⟩:=h s v hs
  refine ⟨h1,?_⟩
  simpa [Array.getD_eq_getD_getElem?,Array.getElem?_setIfInBounds,e] using h2
def Kr:AC->Option (Nat×List AV×List AV)
 | .clo g caps=>some (g,[],caps.map Ie)
 | .bnd g l=>some (g,[.agg (l.map .d)],[])
 | _=>none
theorem ZV {cx:Cx} {m:Mp} {w:World} {lb:Nat->Option fE} {x:AC} {v:Value} {g:Nat} {pre suf:List AV} (h:Kr x=some (g,pre,suf)) (hx:fD cx m w lb x v) :
 ∃ b c,v= .func (.func g) b c/\b.size=pre.length/\c.size=suf.length/\(∀ i,i<pre.length->RA cx m w lb (pre.getD i default) (b.getD i undef))/\(∀ i,i<suf.length->RA cx m w lb (suf.getD i default) (c.getD i undef)):=by
 cases x with
 | clo g' caps=>
  obtain ⟨rfl,rfl,rfl⟩:g'=g/\[]=pre/\caps.map Ie=suf:=by simpa [Kr] using h
  obtain ⟨vs,rfl,hvs,hvc⟩:=hx
  refine ⟨#[],vs,rfl,rfl,by simpa using hvs,λi hi=>absurd hi (by simp),λi hi=> ?_⟩
  rw [List.length_map] at hi
  obtain ⟨u,hu,hr⟩:=hvc i hi
  have e1:(caps.map Ie).getD i default=Ie (caps.getD i (.ref 0 0)):=by
   rw [List.getD_eq_getElem?_getD,List.getElem?_map,List.getD_eq_getElem?_getD,List.getElem?_eq_getElem hi]; rfl
  have e2:vs.getD i undef=u:=by rw [Array.getD_eq_getD_getElem?,hu]; rfl
  rw [e1,e2]
  cases hq:caps.getD i (.ref 0 0) with
  | ref b off=>rw [hq] at hr; exact hr
  | dM l off=>rw [hq] at hr; exact hr
 | bnd g' l=>
  obtain ⟨rfl,rfl,rfl⟩:g'=g/\[AV.agg (l.map .d)]=pre/\[]=suf:=by simpa [Kr] using h
  obtain ⟨us,rfl,hsz,hc⟩:=hx
  refine ⟨#[.agg us], #[],rfl,rfl,rfl,λi hi=> ?_,λi hi=>absurd hi (by simp)⟩
  obtain rfl:i=0:=by simpa using hi
  refine ⟨us,rfl,by simpa using hsz,λj hj=> ?_⟩
  rw [List.length_map] at hj
  obtain ⟨u,hu,hr⟩:=hc j hj
  refine ⟨u,hu,?_⟩
  have e1:(l.map AC.d).getD j .undef= .d (l.getD j .undef):=by
   rw [List.getD_eq_getElem?_getD,List.getElem?_map,List.getD_eq_getElem?_getD,List.getElem?_eq_getElem hj]; rfl
  rw [e1]; exact hr
 | _=>simp [Kr] at h
def xI (fn:Nat) (tmps:Array Value) (ps:Array Nat) (assign body:Code) (D:Nat) (s:LoopState) (pe:Option Code):Loop:=
 { state:=s,pending:=pe,fn,tmps,params:=ps,assign,body,defers:=D }
theorem aae (R:Rel cx st m a w) {Ds:List Nat} (hm:Marks cx w a.defers Ds) (hrd:∀ l,ρ=some l->∃ r,(l,Obj.loop r)∈cx.recs) (fn:Nat) (ps:Array Nat) (assign body:Code) :
 ∃ l Dm D w1,(Instr.enterLoop fn a.tmps ps assign body ρ).run P w= .ok (l,Dm.map mark) w1/\w1.heap[l]? =some (.loop (xI fn a.tmps ps assign body D .ready none))/\cx.w0.heap.size<=l/\
  (∀ p∈cx.recs,p.1≠l)/\l∉Dm++Ds/\Rel cx st m a w1/\Marks cx w1 ((Dm++Ds).map mark) (Dm++Ds):=by
 have hrl:∀ p∈cx.recs,p.1<w.heap.size:=λp hp=>(Array.getElem?_eq_some_iff.1 (R.recs p hp).2.1).1
 have hDl:∀ D∈Ds,D<w.heap.size:=λD hD=>(Array.getElem?_eq_some_iff.1 (hm.here D hD)).1
 cases ρ with
 | some l0=>
  obtain ⟨r0,hr0⟩:=hrd l0 rfl
  have hrun:=run_enterLoop_inner (P:=P) (R.recs _ hr0).2.1 fn a.tmps ps assign body
  have hsame:∀ (ob:Obj) B,B<w.heap.size->(w.alloc ob).heap[B]? =w.heap[B]? :=λob B hB=>by
   show (w.heap.push ob)[B]? =_
   rw [Array.getElem?_push,if_neg (by omega)]
  have R1:Rel cx st m a (w.alloc (.loop (xI fn a.tmps ps assign body r0.defers .ready none))):=R.grow ⟨rfl,rfl,rfl⟩ (by show _<=(w.heap.push _).size; simp) (hsame _)
  refine ⟨w.heap.size,[],r0.defers,_,hrun,World.alloc_heap_new _ _,R.size,λp hp=>by have:=hrl p hp; omega,λh=> ?_,R1,?_⟩
  ·have:=hDl _ (by simpa using h); omega
  ·rw [List.nil_append, <- hm.eq]; exact hm.keeps (.grow (hsame _))
 | none=>
  have hrun:=run_enterLoop_outer (P:=P) (w:=w) fn a.tmps ps assign body
  have hsame:∀ B,B<w.heap.size->((w.alloc (.deferred (some []))).alloc (.loop (xI fn a.tmps ps assign body w.heap.size .ready none))).heap[B]? =w.heap[B]? :=λB hB=>by
   show ((w.heap.push _).push _)[B]? =_
   rw [Array.getElem?_push,if_neg (by simp; omega),Array.getElem?_push,if_neg (by omega)]
  have hD:((w.alloc (.deferred (some []))).alloc (.loop (xI fn a.tmps ps assign body w.heap.size .ready none))).heap[w.heap.size]? =some (.deferred (some [])):=by
   show ((w.heap.push _).push _)[w.heap.size]? =_
   rw [Array.getElem?_push,if_neg (by simp),Array.getElem?_push,if_pos rfl]
  have hl:((w.alloc (.deferred (some []))).alloc (.loop (xI fn a.tmps ps assign body w.heap.size .ready none))).heap[w.heap.size+1]? =some (.loop (xI fn a.tmps ps assign body w.heap.size .ready none)):=by
   show ((w.heap.push _).push _)[w.heap.size+1]? =_
   rw [Array.getElem?_push,if_pos (by simp)]
  have R1:Rel cx st m a ((w.alloc (.deferred (some []))).alloc (.loop (xI fn a.tmps ps assign body w.heap.size .ready none))):=
   R.grow ⟨rfl,rfl,rfl⟩ (by show _<=((w.heap.push _).push _).size; simp only [Array.size_push]; omega) hsame
  have hm1:=hm.keeps (.grow hsame)
  have hRs:=R.size
  refine ⟨w.heap.size+1,[w.heap.size],w.heap.size,_,hrun,hl,by omega,λp hp=>by have:=hrl p hp; omega,λh=> ?_,R1,⟨rfl,?_,?_,?_,?_⟩⟩
  ·rcases List.mem_append.1 h with h | h
   ·simp at h
   have:=hDl _ h; omega
  ·refine List.nodup_cons.2 ⟨λh=> ?_,hm.nodup⟩
   have:=hDl _ h; omega
  ·intro D h
   rcases List.mem_cons.1 h with rfl | h
   ·exact R.size
   exact hm.lo D h
  ·intro D h
   rcases List.mem_cons.1 h with rfl | h
   ·exact hD
   exact hm1.here D h
  intro D h p hp
  rcases List.mem_cons.1 h with rfl | h
  ·have:=hrl p hp; omega
  exact hm.own D h p hp
def aaO (P:Program) (ty:iT) (tb:qj) (n:Nat) (draw:List Oper->St->Prop) (stop:List K->St->Prop) (JA:Eu->List K->St->Prop) (k:List K) (fG:List AV) (osl:List (Nat×AV)) (ts:List Nat) (dst:Option Nat)
 (l:Nat) (ps:List Nat) (assign body:Code) (x:Operand) (args:List Operand):Prop×St->Prop
 | (p,st1)=>p/\valOf st1 x= .c (.Yw l)/\
  ∀ ait,Stop P ty tb n draw (Xv λs=>∀ ais,
   Stop P ty tb n draw (λj s'=>match j with
    | .off=>stop k ((⟨dG st1.sl ts,s'.bx,s'.lb⟩:St).done dst ⟨True,.c (.d (.bool true)),[]⟩)
    | j=>JA j k ((⟨dG st1.sl ts,s'.bx,s'.lb⟩:St).done dst ⟨True,.c (.d (.bool false)),[]⟩)) ais (fG++yc (dG st1.sl ts))->ais [.code body] s) ait (fG++yc (dG st1.sl ts))->
   ait [.code assign] ⟨Gg ps (valsOf st1 args) osl,st1.bx,st1.lb⟩
def ahY (P:Program) (ty:iT) (tb:qj) (n n':Nat) (draw:List Oper->St->Prop) (stop:List K->St->Prop) (JA:Eu->List K->St->Prop) (fG:List AV) (osl:List (Nat×AV)) (l:Nat) (ps:List Nat) (assign body:Code):Prop:=
 ∀ {id:Nat} {ops:Array Oper} {k:List K} {st:St} (i:Nat) (ts:List Nat) {o:Oper} {x:Operand} {args:Array Operand} {tys:Array Nat} (d:Option Nat),ops[i]? =some o->
  o.op= .call { callee:= .value x,args:=args,argTypes:=tys } ->o.guard=none->o.dst=d->KE n' d->args.size=ps.length->
  aaO P ty tb n draw stop JA (.ops ops (i+1)::k) fG osl ts d l ps assign body x args.toList (iQ ty tb n' (ops.toList.map (·.dst)) (ops.toList.take i) st)->
  stop (.code (.region id ops false)::k) st
theorem Stop.range {n n':Nat} {draw sD:List Oper->St->Prop} {fin':Eu->St->Prop} {stop:List K->St->Prop} {fG:List AV} (S:Stop P ty tb n draw fin' stop fG) {k:List K} {st:St}
 (ts:List Nat) {g:Nat} {ac:AC} {pre suf:List AV} {fn:Func} {c:Code} {x:Operand} {ps:Array Nat} {assign body:Code}
 (hf:P.funcs[g]? =some fn) (hnm:(fn.name == "runtime.NumGoroutine")=false) (hb:fn.body=some c) (hn:fn.ntmps=n') (hres:fn.results= #[]) (xO:∀ cx,cx.nt=n->wB P ty tb cx draw) (adF:∀ cx,cx.nt=n'->wB P ty tb cx sD)
 (hps:∀ p∈ps.toList,p<n) (hx:valOf st x= .c ac) (hfun:Kr ac=some (g,pre,suf)) (hlen:pre.length+1+suf.length<=n')
 (h:∀ (l:Nat) (abh:List K->St->Prop) (JA:Eu->List K->St->Prop),
  Stop P ty tb n' sD (lu λs=>stop k ⟨dG st.sl ts,s.bx,s.lb⟩) abh (fG++yc (dG st.sl ts))->
  (∀ j,Stop P ty tb n' sD (lu λs=>stop (.code j.code::k) ⟨dG st.sl ts,s.bx,s.lb⟩) (JA j) (fG++yc (dG st.sl ts)))->
  ahY P ty tb n n' draw abh JA (fG++yc (dG st.sl ts)) (dG st.sl ts) l ps.toList assign body->
  abh [.code c] ⟨Uz 0 (pre++ .c (.Yw l)::suf),st.bx,st.lb⟩) :
 stop (.code (.rangeFunc x ps assign body)::k) st:=by
 obtain ⟨cx,Q,ρ,rfl,hs,hty,htb,hd0,hfin,hrd,rfl⟩:=S.ex
 intro m a w R
 refine wpIn_rangeFunc λfnO _=> ?_
 obtain ⟨Ds,hm⟩:=R.defers
 obtain ⟨l,Dm,D,w1,hent,hL1,hlo,hlr,hlD,R1,hm1⟩:=aae (P:=P) R hm hrd fnO ps assign body
 have hxv:=R1.val x
 rw [hx] at hxv
 obtain ⟨bs,vs,hv,hbs,hvs,hbc,hvc⟩:=ZV hfun hxv
 refine ⟨l,Dm.map mark,w1, { target:= .fn (.func g) vs,args:=bs++ #[.func (.yield l) #[] #[]] },w1,g,bs++ #[.func (.yield l) #[] #[]]++vs,w1,hent,?_,λ_ _=>trivial,?_,λh=>(by cases h),?_⟩
 ·simp only [resolve,hv]
  simp [go_sem,Deferred.ofValue,Act.eval]
 ·simp only [invoke,go_sem]
  exact oJ hf hnm (by rw [hb]; rfl) _
 have ea:({ a with defers:=Dm.map mark++a.defers }:Act)= { a with defers:=(Dm++Ds).map mark } :=by rw [hm.eq,List.map_append]
 rw [ea]
 obtain ⟨rec,hrec⟩:∃ rec:LoopState->Option Code->Loop,rec=xI fnO a.tmps ps assign body D:=⟨_,rfl⟩
 rw [<- hrec] at hL1
 let YI:List (AV×Value):=cx.fG++(dG st.sl ts).map λq=>(q.2,a.tmps.getD q.1 undef)
 let qR:LoopState->Option Code->List (Nat×Obj):=λs pe=>cx.recs++(Dm++Ds).map (λD=>(D,Obj.deferred (some [])))++[(l,.loop (rec s pe))]
 let Vr:LoopState->Option Code->Cx:=λs pe=> { cx with nt:=n',fG:=YI,recs:=qR s pe }
 have adx:YI.map (·.1)=fG++yc (dG st.sl ts):=by simp only [YI,List.map_append,hs,List.map_map,zH]; rfl
 have ai4:∀ {s pe} {w2:World} {s' JR} ,(∀ p,p∈qR s pe->cx.w0.heap.size<=p.1/\w2.heap[p.1]? =some p.2/\oP p.2)->∀ p,p∈qR s' JR->cx.w0.heap.size<=p.1/\(w2.putObj l (.loop (rec s' JR))).heap[p.1]? =some p.2/\oP p.2:=by
  intro s pe w2 s' JR hr p hp
  have hll:=hr (l,.loop (rec s pe)) (by simp [qR])
  rcases List.mem_append.1 hp with hp' | hp'
  ·obtain ⟨g1,g2,g3⟩:=hr p (List.mem_append.2 (.inl hp'))
   refine ⟨g1,?_,g3⟩
   rw [World.putObj_heap_other ?_]
   ·exact g2
   rcases List.mem_append.1 hp' with hp' | hp'
   ·exact hlr p hp'
   obtain ⟨E,hE,rfl⟩:=List.mem_map.1 hp'
   exact λe=>hlD (e▸hE)
  obtain rfl:=List.mem_singleton.1 hp'
  exact ⟨hlo,World.putObj_heap_same (Array.getElem?_eq_some_iff.1 hll.2.1).1,⟨λ_ _ _ e=>(by cases e),λ_ _ e=>(by cases e)⟩⟩
 have adA:∀ {s pe} {w2:World} {s' JR},(∀ p,p∈qR s pe->cx.w0.heap.size<=p.1/\w2.heap[p.1]? =some p.2/\oP p.2)->jI cx.w0.heap.size w2 (w2.putObj l (.loop (rec s' JR))):=by
  intro s pe w2 s' JR hr
  have hll:=hr (l,.loop (rec s pe)) (by simp [qR])
  exact jI.put _ hll.2.1 hll.2.2 hlo
 let post:Ending->World->Prop:=rangePost (FR ρ) 0 P l (sJ P ρ k Q) { a with defers:=(Dm++Ds).map mark }
 refine Ih.2 (callsIn_wide.1 (callsIn_of_wp_marks (F:=Fence.wide) (n:=0) hf hb trivial ?_ (R:=post)))
 have hend:∀ (s:LoopState) (pe:Option Code) (k':List K),s≠ .busy->(∀ a' w',sJ P ρ k' Q .normal a' w'->match pe with | none=>sJ P ρ k Q .normal a' w' | some c=>c.wpIn (FR ρ) 0 P (sJ P ρ k Q) a' w')->
  Yt (Vr s pe) (bodyPostM Fence.wide 0 P fn post) (lu λs=>AR P ρ cx Q k' ⟨dG st.sl ts,s.bx,s.lb⟩):=by
  intro s pe k' hsb hk' s2 m2 a2 w2 R2
  suffices key:AR P ρ cx Q k' ⟨dG st.sl ts,s2.bx,s2.lb⟩->LeavesInM Fence.wide 0 P fn a2.tmps post a2.defers .returning w2 from ⟨key,key,λ_ h=>h.elim⟩
  intro hgo
  obtain ⟨Ds3,hm3⟩:=R2.defers
  obtain ⟨w3,R3,-,-,h4⟩:=qF (P:=P) R2 hm3
  obtain ⟨v,g1,-⟩:=Xl (P:=P) hty R3 (fn:=fn) (by rw [hres]; exact trivial)
  refine h4 ⟨v,g1,?_⟩
  have hll:=R3.recs (l,.loop (rec s pe)) (by simp [Vr,qR])
  refine ⟨pe,w3.putObj l (.loop { rec s pe with state:= .exhausted }),?_,?_⟩
  ·have:=run_endLoop (P:=P) hll.2.1 (by rw [hrec]; exact hsb)
   rw [this]; rw [hrec]; rfl
  refine hk' _ _ (hgo m2 _ _ ?_)
  have e:({ rec s pe with state:= .exhausted }:Loop)=rec .exhausted pe:=by rw [hrec]; rfl
  rw [e]
  have hall:=ai4 (s':= .exhausted) (JR:=pe) R3.recs
  refine Rel.vG (cx:=Vr s pe) (a':= { a with defers:=(Dm++Ds).map mark }) R3 (adA R3.recs) (nt:=cx.nt) (fG:=cx.fG) (recs:=cx.recs) (Ds:=Dm++Ds) ⟨rfl,hm1.nodup,hm1.lo,λE hE=> ?_,hm1.own⟩
   (λp hp=>hall p (by simp [qR,hp])) R1.nt (λt v ht=> ?_) (λq hq=>R3.fG q (List.mem_append.2 (.inl hq)))
  ·exact (hall (E,.deferred (some [])) (by simp only [qR]; exact List.mem_append.2 (.inl (List.mem_append.2 (.inr (List.mem_map.2 ⟨E,hE,rfl⟩)))))).2.1
  obtain ⟨k1,k2⟩:=tu ht
  exact ⟨(R1.slots t v k1).1,R3.fG (v,a.tmps.getD t undef) (List.mem_append.2 (.inr (List.mem_map.2 ⟨(t,v),k2,rfl⟩)))⟩
 have hSI:Stop P ty tb n' sD (lu λs=>AR P ρ cx Q k ⟨dG st.sl ts,s.bx,s.lb⟩) (AR P none (Vr .ready none) (bodyPostM Fence.wide 0 P fn post)) (fG++yc (dG st.sl ts)):=
  ⟨Vr .ready none,_,none,rfl,adx,hty,htb,adF _ rfl,hend .ready none k (by simp) (λ_ _ h=>h),(λ_ h=>by cases h),rfl⟩
 have hSJ:∀ j:Eu,Stop P ty tb n' sD (lu λs=>AR P ρ cx Q (.code j.code::k) ⟨dG st.sl ts,s.bx,s.lb⟩) (AR P none (Vr .done (some j.code)) (bodyPostM Fence.wide 0 P fn post)) (fG++yc (dG st.sl ts)):=
  λj=>⟨Vr .done (some j.code),_,none,rfl,adx,hty,htb,adF _ rfl,hend .done (some j.code) (.code j.code::k) (by simp) (λ_ _ h=>h),(λ_ h=>by cases h),rfl⟩
 refine h l _ (λj=>AR P none (Vr .done (some j.code)) (bodyPostM Fence.wide 0 P fn post)) hSI hSJ ?_ m _ w1 ?_
 ·intro id ops kI stI i tsI o xo args tys d ho hop hg hdd hd hsz hY
  subst hdd
  intro m2 a2 w2 R2
  refine wpIn_region ?_
  have hi:i<ops.size:=(Array.getElem?_eq_some_iff.1 ho).1
  have hsplit:List.range ops.size=List.range i++i::gy ops (i+1):=by
   have e1:ops.size=i+((ops.size - (i+1))+1):=by omega
   conv=>lhs; rw [e1,List.range_add,List.range_succ_eq_map]
   simp only [gy,List.map_cons,List.map_map,Nat.add_zero]
   congr 2
   apply List.map_congr_left
   intro x _
   simp; omega
  rw [hsplit]
  have e:=rZ ty tb n' ops.toList (ops.toList.take i) [] (ops.toList.drop i) stI (by simp)
  have e2:(ops.toList.take i).length=i:=by simp; omega
  simp only [e2,List.length_nil,Nat.zero_add,List.map_id'] at e
  rw [<- e] at hY
  generalize hq:lg ty tb n' ops.toList (List.range i) stI=q at hY
  obtain ⟨p,st1⟩:=q
  obtain ⟨hp,hxo,hA⟩:=hY
  refine Ej (cx:=Vr .ready none) hty htb (List.range i) stI m2 a2 w2 R2 (by rw [hq]; exact hp) (λm3 a3 w3 R3=> ?_)
  rw [hq] at R3
  simp only [wpOpsIn,ho]
  rw [if_pos (by simp [Region.wanted,hg])]
  have aDm:a3.eval xo= .func (.yield l) #[] #[]:=by
   have:=R3.val xo
   rw [hxo] at this; exact this
  have hl3:=R3.recs (l,.loop (rec .ready none)) (by simp [Vr,qR])
  have jO:(execOp a3.eval o).run P w3= .ok (.round l fnO (rM ps.toList (args.toList.map a3.eval) a.tmps) assign body) w3:=by
   have hy:=run_yield (P:=P) (args:=args.map a3.eval) hl3.2.1 (by rw [hrec]; simpa [xI] using hsz)
   rw [hrec] at hy
   simp only [execOp,hop,resolve,aDm,Deferred.ofValue,Sem.run_bind,Sem.run_pure,Result.andThen_ok,invoke,Array.empty_append,Array.append_empty]
   rw [hy]
   simp only [xI, <- Array.foldl_toList,Array.toList_zip,Array.toList_map]
   rw [<- Gf]
  refine ⟨λ_ _=>trivial,?_⟩
  rw [Oper.semAt_eq _ _ _ (λc e=>by rw [hop] at e; cases e),jO,Oper.uponIn_round]
  refine ⟨(λe=>by cases e),roundIn_of_wpIn (F:=FR none) trivial ?_⟩
  obtain ⟨Ds3,hm3⟩:=R3.defers
  let aa':List (AV×Value):=YI++(dG st1.sl tsI).map λq=>(q.2,a3.tmps.getD q.1 undef)
  let Sm:LoopState->Cx:=λs=> { cx with nt:=cx.nt,fG:=aa',recs:=qR s none++Ds3.map λD=>(D,Obj.deferred (some [])) }
  have ai3:aa'.map (·.1)=fG++yc (dG st.sl ts)++yc (dG st1.sl tsI):=by simp only [aa',List.map_append,adx,List.map_map,zH]; rfl
  have awp:∀ E∈Ds3,E≠l:=λE hE e=>hm3.own E hE (l,.loop (rec .ready none)) (by simp [Vr,qR]) e.symm
  have ai5:∀ {s s':LoopState} {w4:World},(∀ p,p∈(Sm s).recs->cx.w0.heap.size<=p.1/\w4.heap[p.1]? =some p.2/\oP p.2)->∀ (s':LoopState) (JR:Option Code),
   (∀ p,p∈qR s' JR++Ds3.map (λD=>(D,Obj.deferred (some [])))->cx.w0.heap.size<=p.1/\(w4.putObj l (.loop (rec s' JR))).heap[p.1]? =some p.2/\oP p.2):=by
   intro s _ w4 hr s' JR p hp
   rcases List.mem_append.1 hp with hp | hp
   ·exact ai4 (λp hp=>hr p (List.mem_append.2 (.inl hp))) p hp
   obtain ⟨g1,g2,g3⟩:=hr p (List.mem_append.2 (.inr hp))
   obtain ⟨E,hE,rfl⟩:=List.mem_map.1 hp
   exact ⟨g1,by rw [World.putObj_heap_other (awp E hE)]; exact g2,g3⟩
  have back:∀ {s m4 a4 w4},Rel (Sm .busy) s m4 a4 w4->∀ (s':LoopState) (JR:Option Code) (b:Bool),
   Rel (Vr s' JR) ((⟨dG st1.sl tsI,s.bx,s.lb⟩:St).done o.dst ⟨True,.c (.d (.bool b)),[]⟩) m4 (a3.put o.dst (.bool b)) (w4.putObj l (.loop (rec s' JR))):=by
   intro s m4 a4 w4 R4 s' JR b
   have hall:=ai5 (s:= .busy) (s':=s') R4.recs s' JR
   have R5:Rel (Vr s' JR) ⟨dG st1.sl tsI,s.bx,s.lb⟩ m4 a3 (w4.putObj l (.loop (rec s' JR))):=by
    refine Rel.vG (cx:=Sm .busy) (a':=a3) R4 (adA (λp hp=>R4.recs p (List.mem_append.2 (.inl hp)))) (nt:=n') (fG:=YI) (recs:=qR s' JR) (Ds:=Ds3) ⟨hm3.eq,hm3.nodup,hm3.lo,λE hE=> ?_,λE hE p hp=> ?_⟩
     (λp hp=>hall p (List.mem_append.2 (.inl hp))) R3.nt (λt v ht=> ?_) (λq hq=>R4.fG q (List.mem_append.2 (.inl hq)))
    ·exact (hall (E,.deferred (some [])) (List.mem_append.2 (.inr (List.mem_map.2 ⟨E,hE,rfl⟩)))).2.1
    ·rcases List.mem_append.1 hp with hp | hp
     ·exact hm3.own E hE p (List.mem_append.2 (.inl hp))
     obtain rfl:=List.mem_singleton.1 hp
     exact λe=>awp E hE e.symm
    obtain ⟨k1,k2⟩:=tu ht
    exact ⟨(R3.slots t v k1).1,R4.fG (v,a3.tmps.getD t undef) (List.mem_append.2 (.inr (List.mem_map.2 ⟨(t,v),k2,rfl⟩)))⟩
   exact vC (cx:=Vr s' JR) (st:=⟨dG st1.sl tsI,s.bx,s.lb⟩) (out:=⟨True,.c (.d (.bool b)),[]⟩) R5 hd (v:= .bool b) (RD.bool b)
  refine hA (AR P (some l) (Sm .ready) _) ⟨Sm .ready,_,some l,rfl,ai3,hty,htb,xO _ rfl,?_,(λl' e=>⟨rec .ready none,by obtain rfl:=Option.some.inj e; simp [Sm,qR]⟩),rfl⟩ m3 { tmps:=rM ps.toList (args.toList.map a3.eval) a.tmps,defers:=[] } w3 ?_
  ·intro s4 m4 a4 w4 R4
   refine ⟨λhB=> ?_,λh=>h.elim,λ_ h=>h.elim⟩
   have hl4:=R4.recs (l,.loop (rec .ready none)) (by simp [Sm,qR])
   refine ⟨_,run_beginRound hl4.2.1 (by rw [hrec]; rfl),?_⟩
   have e5:({ rec .ready none with state:= .busy }:Loop)=rec .busy none:=by rw [hrec]; rfl
   rw [e5]
   refine hB (AR P (some l) (Sm .busy) _) ⟨Sm .busy,_,some l,rfl,ai3,hty,htb,xO _ rfl,?_,(λl' e=>⟨rec .busy none,by obtain rfl:=Option.some.inj e; simp [Sm,qR]⟩),rfl⟩ m4 a4 _ ?_
   ·intro s6 m6 a6 w6 R6
    have hl6:=R6.recs (l,.loop (rec .busy none)) (by simp [Sm,qR])
    have hrun:∀ jump:Option Code,(Instr.endRound l jump).run P w6= .ok (.bool jump.isNone) (w6.putObj l (.loop (rec (if jump.isNone then .ready else .done) jump))):=λjump=>by
     have:=run_endRound (P:=P) jump hl6.2.1
     rw [hrec] at this ⊢; exact this
    exact ⟨λhf=>⟨_,_,hrun none,hf m6 _ _ (back R6 .ready none true)⟩,λhf=>⟨_,_,hrun (some .ret),hf m6 _ _ (back R6 .done (some .ret) false)⟩,
     λid hf=>⟨_,_,hrun (some (.exit id)),hf m6 _ _ (back R6 .done (some (.exit id)) false)⟩⟩
   exact Rel.vG (cx:=Sm .ready) (a':=a4) R4 (adA (λp hp=>R4.recs p (List.mem_append.2 (.inl hp)))) (nt:=cx.nt) (fG:=aa') (recs:=(Sm .busy).recs) (Ds:=(R4.defers.choose))
    ⟨R4.defers.choose_spec.eq,R4.defers.choose_spec.nodup,R4.defers.choose_spec.lo,λE hE=>by
     rw [World.putObj_heap_other]
     ·exact R4.defers.choose_spec.here E hE
     ·exact λe=>R4.defers.choose_spec.own E hE (l,.loop (rec .ready none)) (by simp [Sm,qR]) e.symm,λE hE p hp=>by
     rcases List.mem_append.1 hp with hp | hp
     ·rcases List.mem_append.1 hp with hp | hp
      ·exact R4.defers.choose_spec.own E hE p (List.mem_append.2 (.inl (List.mem_append.2 (.inl hp))))
      obtain rfl:=List.mem_singleton.1 hp
      exact R4.defers.choose_spec.own E hE (l,.loop (rec .ready none)) (by simp [Sm,qR])
     exact R4.defers.choose_spec.own E hE p (List.mem_append.2 (.inr hp))⟩
    (ai5 (s:= .ready) (s':= .busy) R4.recs .busy none) R4.nt R4.slots R4.fG
  refine Rel.vG (cx:=Vr .ready none) (a':= { tmps:=rM ps.toList (args.toList.map a3.eval) a.tmps,defers:=[] }) R3 (.refl _ _) (nt:=cx.nt) (fG:=aa') (recs:=(Sm .ready).recs) (Ds:=[]) BD (Pv R3 hm3) ?_ ?_ (λq hq=> ?_)
  ·show (rM _ _ _).size=_
   rw [F9]; exact R1.nt
  ·refine JQ R1.nt hps (by simp [jw]) (λi hi=> ?_) (λt v ht=> ?_)
   ·simp only [jw,List.length_map] at hi
    have e6:(valsOf st1 args.toList).getD i default=valOf st1 (args.toList[i]):=by rw [jw,List.getD_eq_getElem?_getD,List.getElem?_map,List.getElem?_eq_getElem hi]; rfl
    have e7:(args.toList.map a3.eval).getD i undef=a3.eval (args.toList[i]):=by rw [List.getD_eq_getElem?_getD,List.getElem?_map,List.getElem?_eq_getElem hi]; rfl
    rw [e6,e7]; exact R3.val _
   obtain ⟨k1,k2⟩:=tu ht
   exact ⟨(R1.slots t v k1).1,R3.fG (v,a.tmps.getD t undef) (List.mem_append.2 (.inr (List.mem_map.2 ⟨(t,v),k2,rfl⟩)))⟩
  rcases List.mem_append.1 hq with hq | hq
  ·exact R3.fG q hq
  obtain ⟨r,hr,rfl⟩:=List.mem_map.1 hq
  exact (R3.slots r.1 r.2 (vN hr)).2
 refine Rel.vG (a':= { tmps:=(bs++ #[Value.func (.yield l) #[] #[]]++vs)++Array.replicate (fn.ntmps - (bs++ #[Value.func (.yield l) #[] #[]]++vs).size) undef,defers:=[] }) R1 (.refl _ _) (nt:=n') (fG:=YI) (recs:=qR .ready none) (Ds:=[]) BD (λp hp=> ?_) ?_ (λt v ht=> ?_) (λq hq=> ?_)
 ·rcases List.mem_append.1 hp with hp | hp
  ·rcases List.mem_append.1 hp with hp | hp
   ·exact R1.recs p hp
   obtain ⟨E,hE,rfl⟩:=List.mem_map.1 hp
   exact ⟨hm1.lo E hE,hm1.here E hE,⟨λ_ _ _ e=>(by cases e),λ_ _ e=>(by cases e)⟩⟩
  obtain rfl:=List.mem_singleton.1 hp
  exact ⟨hlo,hL1,⟨λ_ _ _ e=>(by cases e),λ_ _ e=>(by cases e)⟩⟩
 ·simp [hn,hvs,hbs]; omega
 ·obtain ⟨j,hj,e⟩:=Nl ht
  obtain rfl:t=j:=by omega
  have hlt:=(List.getElem?_eq_some_iff.1 hj).1
  simp only [List.length_append,List.length_cons] at hlt
  refine ⟨by omega,?_⟩
  have hsz:t<(bs++ #[Value.func (.yield l) #[] #[]]++vs).size:=by simp [hvs,hbs]; omega
  have hget:((bs++ #[Value.func (.yield l) #[] #[]]++vs)++Array.replicate (fn.ntmps - (bs++ #[Value.func (.yield l) #[] #[]]++vs).size) undef).getD t undef=(bs++ #[Value.func (.yield l) #[] #[]]++vs).getD t undef:=by
   rw [Array.getD_eq_getD_getElem?,Array.getElem?_append_left hsz,Array.getD_eq_getD_getElem?]
  rw [hget]
  by_cases h1:t<pre.length
  ·rw [List.getElem?_append_left h1] at hj
   have e3:(bs++ #[Value.func (.yield l) #[] #[]]++vs).getD t undef=bs.getD t undef:=by
    rw [Array.append_assoc,Array.getD_eq_getD_getElem?,Array.getElem?_append_left (by rw [hbs]; exact h1),Array.getD_eq_getD_getElem?]
   rw [e3]
   have:=hbc t h1
   rw [List.getD_eq_getElem?_getD,hj] at this
   exact this
  rw [List.getElem?_append_right (by omega)] at hj
  by_cases h2:t=pre.length
  ·subst h2
   rw [Nat.sub_self] at hj
   obtain rfl:AV.c (.Yw l)=v:=by simpa using hj
   have e3:(bs++ #[Value.func (.yield l) #[] #[]]++vs).getD pre.length undef= .func (.yield l) #[] #[]:=by
    rw [Array.getD_eq_getD_getElem?,Array.getElem?_append_left (by simp [hbs]),Array.getElem?_append_right (by omega)]
    simp [hbs]
   rw [e3]; exact rfl
  obtain ⟨j,rfl⟩:∃ j,t=pre.length+1+j:=⟨t - (pre.length+1),by omega⟩
  rw [show pre.length+1+j - pre.length=j+1 by omega,List.getElem?_cons_succ] at hj
  have e3:(bs++ #[Value.func (.yield l) #[] #[]]++vs).getD (pre.length+1+j) undef=vs.getD j undef:=by
   rw [Array.getD_eq_getD_getElem?,Array.getElem?_append_right (by simp [hbs]),Array.getD_eq_getD_getElem?]
   congr 2
   simp [hbs]
  rw [e3]
  have:=hvc j (by omega)
  rw [List.getD_eq_getElem?_getD,hj] at this
  exact this
 rcases List.mem_append.1 hq with hq | hq
 ·exact R1.fG q hq
 obtain ⟨r,hr,rfl⟩:=List.mem_map.1 hq
 exact (R1.slots r.1 r.2 (vN hr)).2
def aaI:List AC->Option (List D)
 | []=>some []
 | .d x::r=>match aaI r with
  | some l=>some (x::l)
  | none=>none
 | _=>none
theorem Yp:∀ {l:List AC} {ds:List D},aaI l=some ds->l=ds.map .d
 | [],ds,h=>by obtain rfl:=Option.some.inj h; rfl
 | x::r,ds,h=>by
  cases x with
  | d y=>
   simp only [aaI] at h
   split at h
   ·rename_i l e
    obtain rfl:=Option.some.inj h
    rw [Yp e]; rfl
   ·cases h
  | _=>simp [aaI] at h
def aeY (stop:List K->St->Prop) (k:List K) (t d g:Nat):Prop×St->Prop
 | (p,st1)=>p/\match lk st1.sl t with
  | some (.u (.agg cs))=>match aaI cs with
   | some ds=>stop k (st1.slot d (.c (.bnd g ds)))
   | none=>False
  | _=>False
theorem Stop.bound {n:Nat} {draw:List Oper->St->Prop} {fin':Eu->St->Prop} {stop:List K->St->Prop} {fG:List AV} (S:Stop P ty tb n draw fin' stop fG) {id:Nat} {ops:Array Oper} {k:List K} {st:St}
 (i t d:Nat) {o:Oper} {g:Nat} (ho:ops[i]? =some o) (hop:o.op= .makeFunc (.func g) #[.tmp t] #[]) (hg:o.guard=none) (hd:o.dst=some d) (hdn:d<n)
 (h:aeY stop (.ops ops (i+1)::k) t d g (iQ ty tb n (ops.toList.map (·.dst)) (ops.toList.take i) st)):stop (.code (.region id ops false)::k) st:=by
 obtain ⟨cx,Q,ρ,rfl,hs,hty,htb,hd0,hfin,hrd,rfl⟩:=S.ex
 intro m a w R
 refine wpIn_region ?_
 have hi:i<ops.size:=(Array.getElem?_eq_some_iff.1 ho).1
 have hsplit:List.range ops.size=List.range i++i::gy ops (i+1):=by
  have e1:ops.size=i+((ops.size - (i+1))+1):=by omega
  conv=>lhs; rw [e1,List.range_add,List.range_succ_eq_map]
  simp only [gy,List.map_cons,List.map_map,Nat.add_zero]
  congr 2
  apply List.map_congr_left
  intro x _
  simp; omega
 rw [hsplit]
 have e:=rZ ty tb cx.nt ops.toList (ops.toList.take i) [] (ops.toList.drop i) st (by simp)
 have e2:(ops.toList.take i).length=i:=by simp; omega
 simp only [e2,List.length_nil,Nat.zero_add,List.map_id'] at e
 rw [<- e] at h
 generalize hq:lg ty tb cx.nt ops.toList (List.range i) st=q at h
 obtain ⟨p,st1⟩:=q
 obtain ⟨hp,h⟩:=h
 refine Ej hty htb (List.range i) st m a w R (by rw [hq]; exact hp) (λm1 a1 w1 R1=> ?_)
 rw [hq] at R1
 simp only [wpOpsIn,ho]
 rw [if_pos (by simp [Region.wanted,hg])]
 refine lI (λc e=>by rw [hop] at e; cases e) ?_
 split at h
 ·rename_i cs hcs
  split at h
  ·rename_i ds hds
   obtain rfl:=Yp hds
   obtain ⟨us,hv,hsz,hc⟩:=(R1.slots t _ hcs).2
   have jO:(execOp a1.eval o).run P w1= .ok (.value (.func (.func g) #[.agg us] #[])) w1:=by
    have e3:a1.eval (.tmp t)= .agg us:=hv
    simp only [execOp,hop,List.map_toArray,List.map_cons,List.map_nil,e3]
    simp [Instr.makeFunc,go_sem]
   unfold Oper.wp
   rw [jO,Oper.upon_value,hd]
   refine h m1 _ w1 (R1.slot (t:=d) (v:= .c (.bnd g ds)) hdn ⟨us,rfl,by simpa using hsz,λi hi=> ?_⟩)
   obtain ⟨u,hu,hr⟩:=hc i (by simpa using hi)
   refine ⟨u,hu,?_⟩
   have e4:(ds.map AC.d).getD i .undef= .d (ds.getD i .undef):=by
    rw [List.getD_eq_getElem?_getD,List.getElem?_map,List.getD_eq_getElem?_getD,List.getElem?_eq_getElem hi]; rfl
   rw [e4] at hr
   exact hr
  exact h.elim
 exact h.elim
end
theorem Gp (x:D) (i o:Nat) (c:List D):(x.setAt i o c).nth i=splice (x.nth i) o c:=by
 show (if i=i then _ else _)=_
 rw [if_pos rfl]
section
variable {α:Type} [Inhabited α] {s:Nat} {f:α->List D} {g:List D->α}
theorem aeG {l:List α} {x:D} {hi':Nat} [h:Nonempty (PLift (hi'<=l.length))] (hx:Can s f l x):Can s f (l.take hi') (x.sub 0 hi')=True:=by
 obtain ⟨⟨h⟩⟩:=h
 have:=NY (lo:=0) (hi':=hi') hx h
 simpa using this
theorem aeF {l:List α} {x:D} {lo hi':Nat} [h:Nonempty (PLift (hi'<=l.length))] (hx:Can s f l x):Can s f ((l.drop lo).take (hi' - lo)) (x.sub lo hi')=True:=by
 obtain ⟨⟨h⟩⟩:=h
 exact NY hx h
end
attribute [go_sem] aeG aeF Gp Gg aaO Eu.code Kr aeY aaI
end Go.dR
set_option linter.unusedVariables false
set_option linter.unusedSimpArgs false
namespace Go.dR
theorem Pn {ops:Array Oper} {i:Nat} (hi:i<ops.size):gy ops i=i::gy ops (i+1):=by
 unfold gy
 obtain ⟨q,hq⟩:∃ q,ops.size - i=q+1:=⟨ops.size - i - 1,by omega⟩
 rw [hq,show ops.size - (i+1)=q by omega,List.range_succ_eq_map,List.map_cons,List.map_map,Nat.add_zero]
 congr 1
 apply List.map_congr_left
 intro x _
 simp; omega
theorem TG {ops:Array Oper} {i j:Nat} (h:i<=j) (hj:j<=ops.size):gy ops i=(List.range (j - i)).map (i+ ·)++gy ops j:=by
 unfold gy
 rw [show ops.size - i=(j - i)+(ops.size - j) by omega,List.range_add,List.map_append,List.map_map]
 congr 1
 apply List.map_congr_left
 intro x _
 simp; omega
section
variable {P:Program} {ty:iT} {tb:qj} {st:St}
theorem Stop.aCj {n:Nat} {draw:List Oper->St->Prop} {fin':Eu->St->Prop} {stop:List K->St->Prop} {fG:List AV} (S:Stop P ty tb n draw fin' stop fG) {id:Nat} {ops:Array Oper} {k:List K}
 (h:stop (.ops ops 0::k) st):stop (.code (.region id ops false)::k) st:=by
 obtain ⟨cx,Q,ρ,rfl,hs,hty,htb,hd0,hfin,hrd,rfl⟩:=S.ex
 intro m a w R
 refine wpIn_region ?_
 have h1:wpOpsIn (FR ρ) 0 P ops (sJ P ρ k Q) (gy ops 0) a w:=h m a w R
 have e:gy ops 0=List.range ops.size:=by simp [gy]
 rw [e] at h1
 exact h1
def ave (stop:List K->St->Prop) (k:List K):Prop×St->Prop
 | (p,st1)=>p/\stop k st1
theorem Stop.avd {n:Nat} {draw:List Oper->St->Prop} {fin':Eu->St->Prop} {stop:List K->St->Prop} {fG:List AV} (S:Stop P ty tb n draw fin' stop fG) {ops:Array Oper} {k:List K} (i j:Nat) (hij:i<=j) (hj:j<=ops.size)
 (h:ave stop (.ops ops j::k) (iQ ty tb n (ops.toList.map (·.dst)) ((ops.toList.drop i).take (j - i)) st)):stop (.ops ops i::k) st:=by
 obtain ⟨cx,Q,ρ,rfl,hs,hty,htb,hd0,hfin,hrd,rfl⟩:=S.ex
 intro m a w R
 show wpOpsIn (FR ρ) 0 P ops _ (gy ops i) a w
 rw [TG hij hj]
 have e:=rZ ty tb cx.nt ops.toList ((ops.toList.drop i).take (j - i)) (ops.toList.take i) ((ops.toList.drop i).drop (j - i)) st (by rw [List.append_assoc,List.take_append_drop,List.take_append_drop])
 have e2:(ops.toList.take i).length=i:=by simp; omega
 have e3:((ops.toList.drop i).take (j - i)).length=j - i:=by simp; omega
 simp only [e2,e3] at e
 rw [<- e] at h
 exact Ej hty htb _ st m a w R h.1 (λm1 a1 w1 R1=>h.2 m1 a1 w1 R1)
variable {cx:Cx} {m m1 m':Mp} {a:Act} {w w':World} {o:Oper} {out:Out} {ws:List Wr}
theorem Stop.aDj {n n':Nat} {draw sD:List Oper->St->Prop} {fin':Eu->St->Prop} {stop:List K->St->Prop} {fG:List AV} (S:Stop P ty tb n draw fin' stop fG) {ops:Array Oper} {k:List K}
 (i:Nat) (ts:List Nat) {o:Oper} {g:Nat} (caps:List Cap) {fn:Func} {c:Code} {x:Operand} {args:Array Operand} {tys:Array Nat}
 (hf:P.funcs[g]? =some fn) (hnm:(fn.name == "runtime.NumGoroutine")=false) (hb:fn.body=some c) (hn:fn.ntmps=n') (xO:∀ cx,cx.nt=n'->wB P ty tb cx sD)
 (d:Option Nat) (ho:ops[i]? =some o) (hop:o.op= .call { callee:= .value x,args:=args,argTypes:=tys }) (hg:o.guard=none) (hdd:o.dst=d) (hd:KE n d) (hlen:args.size+caps.length<=n')
 (h:alB P ty tb n' sD stop (.ops ops (i+1)::k) fG ts d g caps fn.results.toList c x args.toList (True,st)) :
 stop (.ops ops i::k) st:=by
 subst hdd
 obtain ⟨cx,Q,ρ,rfl,hs,hty,htb,hd0,hfin,hrd,rfl⟩:=S.ex
 intro m1 a1 w1 R1
 have hi:i<ops.size:=(Array.getElem?_eq_some_iff.1 ho).1
 have hsplit:gy ops i=i::gy ops (i+1):=Pn hi
 show wpOpsIn (FR ρ) 0 P ops _ (gy ops i) a1 w1
 rw [hsplit]
 obtain ⟨-,hx,h⟩:=h
 simp only [wpOpsIn,ho]
 rw [if_pos (by simp [Region.wanted,hg])]
 refine lI (λc e=>by rw [hop] at e; cases e) ?_
 have hxv:=R1.val x
 simp only [hx] at hxv
 obtain ⟨vs,hv,hvs,hvc⟩:=hxv
 have jO:(execOp a1.eval o).run P w1= .ok (.enter g ((args.map a1.eval)++vs)) w1:=by
  simp only [execOp,hop,resolve,hv,Deferred.ofValue,Sem.run_bind,Sem.run_pure,Result.andThen_ok,invoke,Array.empty_append]
  exact oJ hf hnm (by rw [hb]; rfl) _
 unfold Oper.wp
 rw [jO,Oper.upon_enter]
 refine callsIn_wide.1 (callsIn_of_wp_marks (F:=Fence.wide) (n:=0) hf hb trivial ?_)
 obtain ⟨Ds1,hm1⟩:=R1.defers
 let X3:Cx:= { cx with nt:=n',fG:=cx.fG++(dG st.sl ts).map λq=>(q.2,a1.tmps.getD q.1 undef),recs:=cx.recs++Ds1.map λD=>(D,.deferred (some [])) }
 have R2:Rel X3 ⟨Uz 0 (valsOf st args.toList++caps.map Ie),st.bx,st.lb⟩ m1 { tmps:=(args.map a1.eval++vs)++Array.replicate (fn.ntmps - (args.map a1.eval++vs).size) undef,defers:=[] } w1:=by
  refine Rel.vG (a':= { tmps:=(args.map a1.eval++vs)++Array.replicate (fn.ntmps - (args.map a1.eval++vs).size) undef,defers:=[] }) R1 (.refl _ _) (Ds:=[]) BD (Pv R1 hm1) ?_ (λt v ht=> ?_) (λq hq=> ?_)
  ·simp [hn,hvs]; omega
  ·obtain ⟨j,hj,e⟩:=Nl ht
   obtain rfl:t=j:=by omega
   have hlt:=(List.getElem?_eq_some_iff.1 hj).1
   simp only [List.length_append,List.length_map,jw,Array.length_toList] at hlt
   refine ⟨by show t<n'; omega,?_⟩
   have hsz:t<(args.map a1.eval++vs).size:=by simp [hvs]; exact hlt
   have hget:((args.map a1.eval++vs)++Array.replicate (fn.ntmps - (args.map a1.eval++vs).size) undef).getD t undef=(args.map a1.eval++vs).getD t undef:=by
    rw [Array.getD_eq_getD_getElem?,Array.getElem?_append_left hsz,Array.getD_eq_getD_getElem?]
   rw [hget]
   by_cases hta:t<args.size
   ·rw [List.getElem?_append_left (by simpa [jw] using hta),jw,List.getElem?_map,Option.map_eq_some_iff] at hj
    obtain ⟨y,hy,rfl⟩:=hj
    have e3:(args.map a1.eval++vs).getD t undef=a1.eval y:=by
     rw [Array.getD_eq_getD_getElem?,Array.getElem?_append_left (by simpa using hta),Array.getElem?_map]
     rw [Array.getElem?_toList] at hy
     simp [hy]
    rw [e3]; exact R1.val y
   rw [List.getElem?_append_right (by simp [jw]; omega),List.getElem?_map,Option.map_eq_some_iff] at hj
   obtain ⟨y,hy,rfl⟩:=hj
   simp only [jw,List.length_map,Array.length_toList] at hy
   obtain ⟨u,hu,hr⟩:=hvc (t - args.size) (by omega)
   have e3:(args.map a1.eval++vs).getD t undef=u:=by
    rw [Array.getD_eq_getD_getElem?,Array.getElem?_append_right (by simp; omega)]
    simp [hu]
   rw [e3]
   have e4:caps.getD (t - args.size) (.ref 0 0)=y:=by simp [List.getD_eq_getElem?_getD,hy]
   rw [e4] at hr
   cases y with
   | ref b off=>exact hr
   | dM l off=>exact hr
  rcases List.mem_append.1 hq with hq | hq
  ·exact R1.fG q hq
  obtain ⟨r,hr,rfl⟩:=List.mem_map.1 hq
  exact (R1.slots r.1 r.2 (vN hr)).2
 refine h (AR P none X3 (bodyPostM Fence.wide 0 P fn _)) ⟨X3,_,none,rfl,?_,hty,htb,xO X3 rfl,?_,(λ_ h=>by cases h),rfl⟩ _ _ _ R2
 ·simp only [X3,List.map_append,hs,List.map_map,zH]; rfl
 intro s m2 a2 w2 R3'
 suffices key:Uy ty fn.results.toList (AR P ρ cx Q) (.ops ops (i+1)::k) (dG st.sl ts) o.dst s->LeavesInM Fence.wide 0 P fn a2.tmps _ a2.defers .returning w2 from ⟨key,key,λ_ h=>h.elim⟩
 intro awC
 obtain ⟨Ds3,hm3⟩:=R3'.defers
 obtain ⟨w3,R3,-,-,h4⟩:=qF (P:=P) R3' hm3
 obtain ⟨f1,f2⟩:=awC
 obtain ⟨v,g1,g2⟩:=Xl (P:=P) hty R3 f1
 refine h4 ⟨v,g1,?_⟩
 have R4:Rel cx ⟨dG st.sl ts,s.bx,s.lb⟩ m2 a1 w3:=by
  refine Rel.vG (cx:=X3) (a':=a1) R3 (.refl _ _) (nt:=cx.nt) (fG:=cx.fG) (recs:=cx.recs) (Ds:=Ds1) (Uo (cx:=cx) (L:=[]) R3 hm1 (by simp [X3])) (λp hp=>R3.recs p (List.mem_append.2 (.inl hp))) R1.nt (λt v ht=> ?_) (λq hq=>R3.fG q (List.mem_append.2 (.inl hq)))
  obtain ⟨k1,k2⟩:=tu ht
  exact ⟨(R1.slots t v k1).1,R3.fG (v,a1.tmps.getD t undef) (List.mem_append.2 (.inr (List.mem_map.2 ⟨(t,v),k2,rfl⟩)))⟩
 have R5:=vC (st:=⟨dG st.sl ts,s.bx,s.lb⟩) (out:=⟨True,Xm (fA ty s fn.results.toList).2,[]⟩) R4 hd (v:=v) g2
 exact f2 m2 (a1.put o.dst v) w3 R5
theorem Stop.inl {n n':Nat} {draw sD:List Oper->St->Prop} {fin':Eu->St->Prop} {stop:List K->St->Prop} {fG:List AV} (S:Stop P ty tb n draw fin' stop fG) {id:Nat} {ops:Array Oper} {k:List K}
 (i:Nat) (ts:List Nat) {o:Oper} {g:Nat} (caps:List Cap) {fn:Func} {c:Code} {x:Operand} {args:Array Operand} {tys:Array Nat}
 (hf:P.funcs[g]? =some fn) (hnm:(fn.name == "runtime.NumGoroutine")=false) (hb:fn.body=some c) (hn:fn.ntmps=n') (xO:∀ cx,cx.nt=n'->wB P ty tb cx sD)
 (d:Option Nat) (ho:ops[i]? =some o) (hop:o.op= .call { callee:= .value x,args:=args,argTypes:=tys }) (hg:o.guard=none) (hdd:o.dst=d) (hd:KE n d) (hlen:args.size+caps.length<=n')
 (h:alB P ty tb n' sD stop (.ops ops (i+1)::k) fG ts d g caps fn.results.toList c x args.toList (iQ ty tb n (ops.toList.map (·.dst)) (ops.toList.take i) st)) :
 stop (.code (.region id ops false)::k) st:=by
 have hi:i<ops.size:=(Array.getElem?_eq_some_iff.1 ho).1
 refine S.aCj (S.avd 0 i (Nat.zero_le _) (Nat.le_of_lt hi) ?_)
 rw [List.drop_zero,Nat.sub_zero]
 generalize iQ ty tb n (ops.toList.map (·.dst)) (ops.toList.take i) st=q at h
 exact ⟨h.1,S.aDj i ts caps hf hnm hb hn xO d ho hop hg hdd hd hlen ⟨trivial,h.2⟩⟩
def aw4 (stop:List K->St->Prop) (k:List K) (t d:Nat) (st:St):Prop:=
 match (lk st.sl t).getD default with
 | .u (.c .dF)=>stop k (st.slot d (.c (.X8 (.sl 0 0 λ_=>[]))))
 | .u (.c (.d x))=>x.cu=true/\stop k (st.slot d (.c (.X8 x)))
 | .u (.c (.own j))=>
  match lk st.lb j with
  | some (.shared x)=>stop k (st.slot d (.c (.X8 x)))
  | _=>False
 | _=>False
end
attribute [go_sem] ave aw4
end Go.dR

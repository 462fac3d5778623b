import Derived.Test.YtnepigpnlnmlmaaGreatDoorAbsChk
set_option linter.unusedVariables false
set_option linter.unusedSimpArgs false
namespace Go.dR
abbrev iC (x:Int):AC:= .d (.int .i64 x)
abbrev sI (t:Nat) (x:Int):Nat×AV:=(t,.c (.d (.int .i64 x)))
abbrev sO (t k:Nat):Nat×AV:=(t,.c (.own k))
abbrev sR (t b:Nat):Nat×AV:=(t,.c (.ref b 0))
theorem gA {p q:Prop} (h:q) (hp:p:=by first | with_reducible assumption | (with_reducible refine ahJ ?_; decide +kernel) | with_reducible_and_instances assumption | decide +kernel | (show _≠_; omega) | ((fail_if_success intro _); omega) | (show oH _ _; (simp (maxDischargeDepth:=8) [go_sem]; done)) | fail):p/\q:=⟨hp,h⟩
structure Hid (q:Prop):Prop where
 out:q
theorem gG {c d p p' q:Prop} (hg:d->p') (h:q) (hc:c->d:=by intro hq; first | exact hq | (rw [hq]; rfl) | simpa using hq | fail) (hp:p'->p:=by intro h9; first | exact h9 | omega | simpa using h9 | fail):(c->p)/\q:=⟨λx=>hp (hg (hc x)),h⟩
theorem gB {p q:Prop} (h:q) (hp:p:=by first | (intro hq; first | exact hq.1 | exact hq | fail) | (intro hq; refine ⟨hq,?_⟩; intro h2; first | (rw [hq, <- h2]; rfl) | (rw [hq]; simp [h2]; done) | (rw [hq,h2]; done) | (rw [hq,h2]; rfl) | (simp_all; done) | fail) | (simp +contextual; done) | fail):p/\q:=⟨hp,h⟩
theorem gs {p q:Prop} (h:q) (e:p=q:=by simp (maxSteps:=10000000) only [go_sem,Bool.not_true,Bool.not_false,Option.map_some,Int.reduceToNat,Nat.reduceEqDiff,Nat.reduceBEq,Nat.reduceLT,Nat.reduceAdd,Nat.reduceMul,Nat.reduceSub,Nat.reduceLeDiff, ↓reduceIte,reduceCtorEq]; rfl):p:=e▸h
theorem lf {p:Prop} (h:p:=by simp (maxDischargeDepth:=8) [go_sem,-List.drop_one]):p:=h
section
variable {P:Program} {ty:iT} {tb:qj} {n:Nat} {draw:List Oper->St->Prop} {fin':Eu->St->Prop} {stop:List K->St->Prop} {fG:List AV}
theorem Stop.gx (S:Stop P ty tb n draw fin' stop fG) (brk:List Nat) {k:List K} {st:St} {p q:Prop} (h:q) (e0:Hid (stop k st)->p:=by intro hq; (repeat refine gA ?_); exact hq.out) (e:vc ty tb n draw fin' stop brk 1000 k st=q:=by simp (maxSteps:=10000000) only [go_sem,Bool.not_true,Bool.not_false,Option.map_some,Int.reduceToNat,Nat.reduceEqDiff,Nat.reduceBEq,Nat.reduceLT,Nat.reduceAdd,Nat.reduceMul,Nat.reduceSub,Nat.reduceLeDiff, ↓reduceIte,reduceCtorEq]; rfl):p:=e0 ⟨S.goB brk 1000 (e▸h)⟩
theorem Stop.gw (S:Stop P ty tb n draw fin' stop fG) (brk:List Nat) {k:List K} {st:St} {p q q':Prop} (h:q) (e0:Hid (stop k st)->p:=by intro hq; (repeat refine gA ?_); exact hq.out) (e:vc ty tb n draw fin' stop brk 1000 k st=q':=by simp (maxSteps:=10000000) only [go_sem,Bool.not_true,Bool.not_false,Option.map_some,Int.reduceToNat,Nat.reduceEqDiff,Nat.reduceBEq,Nat.reduceLT,Nat.reduceAdd,Nat.reduceMul,Nat.reduceSub,Nat.reduceLeDiff, ↓reduceIte,reduceCtorEq]; rfl) (e1:Hid q->q':=by intro hq; (repeat refine gA ?_); exact hq.out):p:=e0 ⟨S.goB brk 1000 (e▸e1 ⟨h⟩)⟩
theorem Stop.ss (S:Stop P ty tb n draw fin' stop fG) (ts:List Nat) (bs ks:List (Nat×Nat)):∀ k st st',ah7 fG ts bs ks st st'->stop k st'->stop k st:=λ_ _ _ hv h=>S.sees ts bs ks hv h
theorem Stop.li (S:Stop P ty tb n draw fin' stop fG) (ts:List Nat) (bs ks:List (Nat×Nat)) {c:Code} {k:List K} {st:St} {σ ρ:Type} (head:σ->St) (B:σ->eY σ ρ) (G:ρ->Prop) {fuel:Nat} {s:σ} {q:ρ} (hq:aK B fuel s=some q) (hG:G q) (round:∀ s,nS (λs'=>stop (.lp c::k) (head s')) G (B s)->stop (.code c:: .lp c::k) (head s)) (e:ah7 fG ts bs ks st (head s):=by simp (maxDischargeDepth:=8) [go_sem,-List.drop_one]):stop (.lp c::k) st:=S.sees ts bs ks e (S.iter head B G hq hG round)
theorem Stop.prune (S:Stop P ty tb n draw fin' stop fG) (ts:List Nat) {k:List K} {st:St} {l:List (Nat×AV)} (h:stop k ⟨l,st.bx,st.lb⟩) (e:dG st.sl ts=l:=by simp (maxSteps:=10000000) only [go_sem,Bool.not_true,Bool.not_false,Option.map_some,Int.reduceToNat,Nat.reduceEqDiff,Nat.reduceBEq,Nat.reduceLT,Nat.reduceAdd,Nat.reduceMul,Nat.reduceSub,Nat.reduceLeDiff, ↓reduceIte,reduceCtorEq]; rfl):stop k st:=
 S.weak ⟨dG st.sl ts,st.bx,st.lb⟩ (λcx m a w _ _ R=>⟨m, { R with slots:=λt v h=>R.slots t v (tu h).1 }⟩) (e▸h)
end
def mkT {α β:Type} [Inhabited β] (e:α->List Arg) (d:List Arg->α) (f:α->Option β) (u:β->List RV) (al:Bool):uJ α where
 enc:=e
 dec:=d
 pre x:=(f x).isSome=true
 res x:=u ((f x).getD default)
 al:=al
theorem oG {α:Type} {a d:α}:(some a).getD d=a:=rfl
theorem oI {α:Type} {a:α}:(some a).isSome=true:=rfl
theorem oE {α:Type} {x:Option α} (h:x.isSome=true):∃ a,x=some a:=Option.isSome_iff_exists.1 h
theorem nL {a b:Nat} (h:Nat.ble a b=true):a<=b:=Nat.le_of_ble_eq_true h
abbrev Bd (σ ρ:Type):=σ->eY σ ρ
abbrev ajx (P:Program) (ty:iT) (tb:qj) (n:Nat) (fn:Func) (al:Bool) (v:List RV) (stop:List K->St->Prop):=Stop P ty tb n (drawn ty tb n) (lu (Ap ty fn.results.toList al v)) stop
theorem VP {α β:Type} [Inhabited β] {P:Program} {ty:iT} {tb:qj} {f:Nat} {fn:Func} {c:Code} {n:Nat} {e:α->List Arg} {d:List Arg->α} {g:α->Option β} {u:β->List RV} {al:Bool} (hty:iP P ty) (htb:fM P tb) (hf:P.funcs[f]? =some fn) (hb:fn.body=some c) (hn:fn.ntmps=n)
 (h:∀ x r,g x=some r->(e x).length<=n/\∀ stop,ajx P ty tb n fn al (u r) stop->stop [.code c] (St.begin (e x))) (hm:(fn.name == "runtime.NumGoroutine")=false:=by decide):aF P f (mkT e d g u al).sp:=
 ⟨⟨fn,hf,hm,by rw [hb]; rfl⟩,VO hty htb hf hb hn (λx hx=>by
  obtain ⟨r,hr⟩:=oE (x:=g x) hx
  obtain ⟨h1,h2⟩:=h x r hr
  refine ⟨h1,λstop S=>h2 stop ?_⟩
  have e9:(mkT e d g u al).res x=u r:=by simp only [mkT,hr,oG]
  rw [<- e9]; exact S)⟩
theorem ahr {α:Type} {P:Program} {f:Nat} {fn:Func} {c:Code} {T:uJ α} (hf:P.funcs[f]? =some fn) (hm:(fn.name == "runtime.NumGoroutine")=false) (hb:fn.body=some c) (h:∀ x,¬ T.pre x):aF P f T.sp:=
 ⟨⟨fn,hf,hm,by rw [hb]; rfl⟩,aaU h⟩
theorem gr {p q:Prop} (h:q) (e:Hid q->p:=by intro hq; (repeat refine gA ?_); exact hq.out):p:=e ⟨h⟩
theorem gb {α:Type} {o:Option α} {v:α} {p q:Prop} (hv:o=some v) (h:q) (e:o=some v->Hid q->p:=by intro hv hq; (try simp only [hv,oG,oI,true_and,and_assoc]); (repeat refine gA ?_); exact hq.out):p:=e hv ⟨h⟩
theorem iW {α:Type} {e c d p q:Prop} {inst:Decidable e} {x y r:α} (hr:(if e then x else y)=r) (h1:c->x=r->p) (h2:d->y=r->q) (a:c->e:=by intro hc; first | exact hc | exact ne_true_of_eq_false hc | exact eq_false_of_ne_true hc | (rw [hc]; rfl) | (revert hc; simp; done) | simpa using hc | (simp at hc ⊢; omega) | (simp_all; done) | fail) (b:d->¬ e:=by intro hc; first | exact hc | exact ne_true_of_eq_false hc | exact eq_false_of_ne_true hc | (rw [hc]; rfl) | (revert hc; simp; done) | simpa using hc | (simp at hc ⊢; omega) | (simp_all; done) | fail):(c->p)/\(d->q):=
 ⟨λhc=>h1 hc (by rw [<- hr,if_pos (a hc)]),λhc=>h2 hc (by rw [<- hr,if_neg (b hc)])⟩
theorem iV {α:Type} {e c d p q:Prop} {inst:Decidable e} {x y r:α} (hr:(if e then x else y)=r) (h1:c->y=r->p) (h2:d->x=r->q) (a:c->¬ e:=by intro hc; first | exact hc | exact ne_true_of_eq_false hc | exact eq_false_of_ne_true hc | (rw [hc]; rfl) | (revert hc; simp; done) | simpa using hc | (simp at hc ⊢; omega) | (simp_all; done) | fail) (b:d->e:=by intro hc; first | exact hc | exact ne_true_of_eq_false hc | exact eq_false_of_ne_true hc | (rw [hc]; rfl) | (revert hc; simp; done) | simpa using hc | (simp at hc ⊢; omega) | (simp_all; done) | fail):(c->p)/\(d->q):=
 ⟨λhc=>h1 hc (by rw [<- hr,if_neg (a hc)]),λhc=>h2 hc (by rw [<- hr,if_pos (b hc)])⟩
theorem gJ {σ ρ:Type} {nx:σ->Prop} {G:ρ->Prop} {e c d p q:Prop} {inst:Decidable e} {x y:eY σ ρ} (hr:nS nx G (if e then x else y)) (h1:c->nS nx G x->p) (h2:d->nS nx G y->q) (a:c->e:=by intro hc; first | exact hc | exact ne_true_of_eq_false hc | exact eq_false_of_ne_true hc | (rw [hc]; rfl) | (revert hc; simp; done) | simpa using hc | (simp at hc ⊢; omega) | (simp_all; done) | fail) (b:d->¬ e:=by intro hc; first | exact hc | exact ne_true_of_eq_false hc | exact eq_false_of_ne_true hc | (rw [hc]; rfl) | (revert hc; simp; done) | simpa using hc | (simp at hc ⊢; omega) | (simp_all; done) | fail):(c->p)/\(d->q):=
 ⟨λhc=>h1 hc (by rwa [if_pos (a hc)] at hr),λhc=>h2 hc (by rwa [if_neg (b hc)] at hr)⟩
theorem iV1 {σ ρ:Type} {nx:σ->Prop} {G:ρ->Prop} {e c d p q:Prop} {inst:Decidable e} {x y:eY σ ρ} (hr:nS nx G (if e then x else y)) (h1:c->nS nx G y->p) (h2:d->nS nx G x->q) (a:c->¬ e:=by intro hc; first | exact hc | exact ne_true_of_eq_false hc | exact eq_false_of_ne_true hc | (rw [hc]; rfl) | (revert hc; simp; done) | simpa using hc | (simp at hc ⊢; omega) | (simp_all; done) | fail) (b:d->e:=by intro hc; first | exact hc | exact ne_true_of_eq_false hc | exact eq_false_of_ne_true hc | (rw [hc]; rfl) | (revert hc; simp; done) | simpa using hc | (simp at hc ⊢; omega) | (simp_all; done) | fail):(c->p)/\(d->q):=
 ⟨λhc=>h1 hc (by rwa [if_neg (a hc)] at hr),λhc=>h2 hc (by rwa [if_pos (b hc)] at hr)⟩
theorem isI {α:Type} {e:Prop} {inst:Decidable e} {x y r:α} (_:(if e then x else y)=r):True:=trivial
theorem awg {σ ρ:Type} {nx:σ->Prop} {G:ρ->Prop} {e:Prop} {inst:Decidable e} {x y:eY σ ρ} (_:nS nx G (if e then x else y)):True:=trivial
theorem D0 {H p:Prop} (hr:H) (h:H->p:=by
 intro hr
 repeat' first
  | ((with_reducible obtain ⟨v,hv,hr⟩:=aB hr); try simp only [hv,oG,oI,true_and,and_assoc])
  | ((with_reducible obtain ⟨v,hv,hr⟩:=bf hr); try simp only [hv,oG,oI,true_and,and_assoc])
  | (with_reducible obtain ⟨_,hr⟩:=aP hr)
  | (with_reducible obtain ⟨_,hr⟩:=aH hr)
  | ((with_reducible have:=isI hr); first | refine iW hr (λhc hr=> ?_) λhc hr=> ?_ | refine iV hr (λhc hr=> ?_) λhc hr=> ?_)
  | ((with_reducible have:=awg hr); first | refine gJ hr (λhc hr=> ?_) λhc hr=> ?_ | refine iV1 hr (λhc hr=> ?_) λhc hr=> ?_)
  | refine gA ?_
  | (with_reducible have hr:=bT hr)
  | (cases hr; exact lf)):p:=h hr
theorem D1 {H p A:Prop} (hs:A) (hr:H) (h:A->H->p:=by
 intro hs hr
 repeat' first
  | ((with_reducible obtain ⟨v,hv,hr⟩:=aB hr); try simp only [hv,oG,oI,true_and,and_assoc])
  | ((with_reducible obtain ⟨v,hv,hr⟩:=bf hr); try simp only [hv,oG,oI,true_and,and_assoc])
  | (with_reducible obtain ⟨_,hr⟩:=aP hr)
  | (with_reducible obtain ⟨_,hr⟩:=aH hr)
  | ((with_reducible have:=isI hr); first | refine iW hr (λhc hr=> ?_) λhc hr=> ?_ | refine iV hr (λhc hr=> ?_) λhc hr=> ?_)
  | ((with_reducible have:=awg hr); first | refine gJ hr (λhc hr=> ?_) λhc hr=> ?_ | refine iV1 hr (λhc hr=> ?_) λhc hr=> ?_)
  | refine gA ?_
  | (with_reducible have hr:=bT hr)
  | (refine hs _ _ _ ?_ hr; exact lf)
  | (cases hr; exact lf)):p:=h hs hr
attribute [go_sem] iC sI sO sR
end Go.dR

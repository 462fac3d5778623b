import Derived.Test.YtnepigpnlnmlmaaGreatDoorAbsChk
set_option linter.unusedVariables false
set_option linter.unusedSimpArgs false
namespace Go.Abs
abbrev iC (x:Int):AC:= .d (.int .i64 x)
abbrev sI (t:Nat) (x:Int):Nat×AV:=(t,.c (.d (.int .i64 x)))
abbrev sO (t k:Nat):Nat×AV:=(t,.c (.own k))
abbrev sR (t b:Nat):Nat×AV:=(t,.c (.ref b 0))
theorem gA {p q:Prop} (h:q) (hp:p:=by first | with_reducible assumption | (with_reducible refine chk_of3 ?_; decide +kernel) | with_reducible_and_instances assumption | decide +kernel | (show _≠_; omega) | ((fail_if_success intro _); omega) | (show Eqv _ _; (simp (maxDischargeDepth:=8) [go_sem]; done)) | fail):p∧q:=⟨hp,h⟩
structure Hid (q:Prop):Prop where
 out:q
theorem gG {c d p p' q:Prop} (hg:d→p') (h:q) (hc:c→d:=by intro hq; first | exact hq | (rw [hq]; rfl) | simpa using hq | fail) (hp:p'→p:=by intro h9; first | exact h9 | omega | simpa using h9 | fail):(c→p)∧q:=⟨fun x=>hp (hg (hc x)),h⟩
theorem gB {p q:Prop} (h:q) (hp:p:=by first | (intro hq; first | exact hq.1 | exact hq | fail) | (intro hq; refine ⟨hq,?_⟩; intro h2; first | (rw [hq, ← h2]; rfl) | (rw [hq]; simp [h2]; done) | (rw [hq,h2]; done) | (rw [hq,h2]; rfl) | (simp_all; done) | fail) | (simp +contextual; done) | fail):p∧q:=⟨hp,h⟩
theorem gs {p q:Prop} (h:q) (e:p=q:=by simp (maxSteps:=10000000) only [go_sem,Bool.not_true,Bool.not_false,Option.map_some,Int.reduceToNat,Nat.reduceEqDiff,Nat.reduceBEq,Nat.reduceLT,Nat.reduceAdd,Nat.reduceMul,Nat.reduceSub,Nat.reduceLeDiff, ↓reduceIte,reduceCtorEq]; rfl):p:=e▸h
theorem lf {p:Prop} (h:p:=by simp (maxDischargeDepth:=8) [go_sem,-List.drop_one]):p:=h
section
variable {P:Program} {ty:Tys} {tb:Fns} {n:Nat} {draw:List Oper→St→Prop} {fin':Jmp→St→Prop} {stop:List K→St→Prop} {sus:List AV}
theorem Stop.gx (S:Stop P ty tb n draw fin' stop sus) (brk:List Nat) {k:List K} {st:St} {p q:Prop} (h:q) (e0:Hid (stop k st)→p:=by intro hq; (repeat refine gA ?_); exact hq.out) (e:vc ty tb n draw fin' stop brk 1000 k st=q:=by simp (maxSteps:=10000000) only [go_sem,Bool.not_true,Bool.not_false,Option.map_some,Int.reduceToNat,Nat.reduceEqDiff,Nat.reduceBEq,Nat.reduceLT,Nat.reduceAdd,Nat.reduceMul,Nat.reduceSub,Nat.reduceLeDiff, ↓reduceIte,reduceCtorEq]; rfl):p:=e0 ⟨S.goB brk 1000 (e▸h)⟩
theorem Stop.gw (S:Stop P ty tb n draw fin' stop sus) (brk:List Nat) {k:List K} {st:St} {p q q':Prop} (h:q) (e0:Hid (stop k st)→p:=by intro hq; (repeat refine gA ?_); exact hq.out) (e:vc ty tb n draw fin' stop brk 1000 k st=q':=by simp (maxSteps:=10000000) only [go_sem,Bool.not_true,Bool.not_false,Option.map_some,Int.reduceToNat,Nat.reduceEqDiff,Nat.reduceBEq,Nat.reduceLT,Nat.reduceAdd,Nat.reduceMul,Nat.reduceSub,Nat.reduceLeDiff, ↓reduceIte,reduceCtorEq]; rfl) (e1:Hid q→q':=by intro hq; (repeat refine gA ?_); exact hq.out):p:=e0 ⟨S.goB brk 1000 (e▸e1 ⟨h⟩)⟩
theorem Stop.ss (S:Stop P ty tb n draw fin' stop sus) (ts:List Nat) (bs ks:List (Nat×Nat)):∀ k st st',Sees sus ts bs ks st st'→stop k st'→stop k st:=fun _ _ _ hv h=>S.sees ts bs ks hv h
theorem Stop.li (S:Stop P ty tb n draw fin' stop sus) (ts:List Nat) (bs ks:List (Nat×Nat)) {c:Code} {k:List K} {st:St} {σ ρ:Type} (head:σ→St) (B:σ→Ctl σ ρ) (G:ρ→Prop) {fuel:Nat} {s:σ} {q:ρ} (hq:iterC B fuel s=some q) (hG:G q) (round:∀ s,goodC (fun s'=>stop (.lp c::k) (head s')) G (B s)→stop (.code c:: .lp c::k) (head s)) (e:Sees sus ts bs ks st (head s):=by simp (maxDischargeDepth:=8) [go_sem,-List.drop_one]):stop (.lp c::k) st:=S.sees ts bs ks e (S.iter head B G hq hG round)
theorem Stop.prune (S:Stop P ty tb n draw fin' stop sus) (ts:List Nat) {k:List K} {st:St} {l:List (Nat×AV)} (h:stop k ⟨l,st.bx,st.lb⟩) (e:keptSl st.sl ts=l:=by simp (maxSteps:=10000000) only [go_sem,Bool.not_true,Bool.not_false,Option.map_some,Int.reduceToNat,Nat.reduceEqDiff,Nat.reduceBEq,Nat.reduceLT,Nat.reduceAdd,Nat.reduceMul,Nat.reduceSub,Nat.reduceLeDiff, ↓reduceIte,reduceCtorEq]; rfl):stop k st:=
 S.weak ⟨keptSl st.sl ts,st.bx,st.lb⟩ (fun cx m a w _ _ R=>⟨m, { R with slots:=fun t v h=>R.slots t v (lk_kept h).1 }⟩) (e▸h)
end
def mkT {α β:Type} [Inhabited β] (e:α→List Arg) (d:List Arg→α) (f:α→Option β) (u:β→List RV) (al:Bool):TSpec α where
 enc:=e
 dec:=d
 pre x:=(f x).isSome=true
 res x:=u ((f x).getD default)
 al:=al
theorem oG {α:Type} {a d:α}:(some a).getD d=a:=rfl
theorem oI {α:Type} {a:α}:(some a).isSome=true:=rfl
theorem oE {α:Type} {x:Option α} (h:x.isSome=true):∃ a,x=some a:=Option.isSome_iff_exists.1 h
theorem nL {a b:Nat} (h:Nat.ble a b=true):a≤b:=Nat.le_of_ble_eq_true h
abbrev Bd (σ ρ:Type):=σ→Ctl σ ρ
abbrev StopF (P:Program) (ty:Tys) (tb:Fns) (n:Nat) (fn:Func) (al:Bool) (v:List RV) (stop:List K→St→Prop):=Stop P ty tb n (drawn ty tb n) (onlyEnd (finE ty fn.results.toList al v)) stop
theorem valid_m {α β:Type} [Inhabited β] {P:Program} {ty:Tys} {tb:Fns} {f:Nat} {fn:Func} {c:Code} {n:Nat} {e:α→List Arg} {d:List Arg→α} {g:α→Option β} {u:β→List RV} {al:Bool} (hty:TyOk P ty) (htb:FnsOk P tb) (hf:P.funcs[f]? =some fn) (hb:fn.body=some c) (hn:fn.ntmps=n)
 (h:∀ x r,g x=some r→(e x).length≤n∧∀ stop,StopF P ty tb n fn al (u r) stop→stop [.code c] (St.begin (e x))) (hm:(fn.name == "runtime.NumGoroutine")=false:=by decide):FnFact P f (mkT e d g u al).sp:=
 ⟨⟨fn,hf,hm,by rw [hb]; rfl⟩,valid_t hty htb hf hb hn (fun x hx=>by
  obtain ⟨r,hr⟩:=oE (x:=g x) hx
  obtain ⟨h1,h2⟩:=h x r hr
  refine ⟨h1,fun stop S=>h2 stop ?_⟩
  have e9:(mkT e d g u al).res x=u r:=by simp only [mkT,hr,oG]
  rw [← e9]; exact S)⟩
theorem fact_no {α:Type} {P:Program} {f:Nat} {fn:Func} {c:Code} {T:TSpec α} (hf:P.funcs[f]? =some fn) (hm:(fn.name == "runtime.NumGoroutine")=false) (hb:fn.body=some c) (h:∀ x,¬ T.pre x):FnFact P f T.sp:=
 ⟨⟨fn,hf,hm,by rw [hb]; rfl⟩,valid_no h⟩
theorem gr {p q:Prop} (h:q) (e:Hid q→p:=by intro hq; (repeat refine gA ?_); exact hq.out):p:=e ⟨h⟩
theorem gb {α:Type} {o:Option α} {v:α} {p q:Prop} (hv:o=some v) (h:q) (e:o=some v→Hid q→p:=by intro hv hq; (try simp only [hv,oG,oI,true_and,and_assoc]); (repeat refine gA ?_); exact hq.out):p:=e hv ⟨h⟩
theorem iW {α:Type} {e c d p q:Prop} {inst:Decidable e} {x y r:α} (hr:(if e then x else y)=r) (h1:c→x=r→p) (h2:d→y=r→q) (a:c→e:=by intro hc; first | exact hc | exact ne_true_of_eq_false hc | exact eq_false_of_ne_true hc | (rw [hc]; rfl) | (revert hc; simp; done) | simpa using hc | (simp at hc ⊢; omega) | (simp_all; done) | fail) (b:d→¬ e:=by intro hc; first | exact hc | exact ne_true_of_eq_false hc | exact eq_false_of_ne_true hc | (rw [hc]; rfl) | (revert hc; simp; done) | simpa using hc | (simp at hc ⊢; omega) | (simp_all; done) | fail):(c→p)∧(d→q):=
 ⟨fun hc=>h1 hc (by rw [← hr,if_pos (a hc)]),fun hc=>h2 hc (by rw [← hr,if_neg (b hc)])⟩
theorem iV {α:Type} {e c d p q:Prop} {inst:Decidable e} {x y r:α} (hr:(if e then x else y)=r) (h1:c→y=r→p) (h2:d→x=r→q) (a:c→¬ e:=by intro hc; first | exact hc | exact ne_true_of_eq_false hc | exact eq_false_of_ne_true hc | (rw [hc]; rfl) | (revert hc; simp; done) | simpa using hc | (simp at hc ⊢; omega) | (simp_all; done) | fail) (b:d→e:=by intro hc; first | exact hc | exact ne_true_of_eq_false hc | exact eq_false_of_ne_true hc | (rw [hc]; rfl) | (revert hc; simp; done) | simpa using hc | (simp at hc ⊢; omega) | (simp_all; done) | fail):(c→p)∧(d→q):=
 ⟨fun hc=>h1 hc (by rw [← hr,if_neg (a hc)]),fun hc=>h2 hc (by rw [← hr,if_pos (b hc)])⟩
theorem iW1 {σ ρ:Type} {nx:σ→Prop} {G:ρ→Prop} {e c d p q:Prop} {inst:Decidable e} {x y:Ctl σ ρ} (hr:goodC nx G (if e then x else y)) (h1:c→goodC nx G x→p) (h2:d→goodC nx G y→q) (a:c→e:=by intro hc; first | exact hc | exact ne_true_of_eq_false hc | exact eq_false_of_ne_true hc | (rw [hc]; rfl) | (revert hc; simp; done) | simpa using hc | (simp at hc ⊢; omega) | (simp_all; done) | fail) (b:d→¬ e:=by intro hc; first | exact hc | exact ne_true_of_eq_false hc | exact eq_false_of_ne_true hc | (rw [hc]; rfl) | (revert hc; simp; done) | simpa using hc | (simp at hc ⊢; omega) | (simp_all; done) | fail):(c→p)∧(d→q):=
 ⟨fun hc=>h1 hc (by rwa [if_pos (a hc)] at hr),fun hc=>h2 hc (by rwa [if_neg (b hc)] at hr)⟩
theorem iV1 {σ ρ:Type} {nx:σ→Prop} {G:ρ→Prop} {e c d p q:Prop} {inst:Decidable e} {x y:Ctl σ ρ} (hr:goodC nx G (if e then x else y)) (h1:c→goodC nx G y→p) (h2:d→goodC nx G x→q) (a:c→¬ e:=by intro hc; first | exact hc | exact ne_true_of_eq_false hc | exact eq_false_of_ne_true hc | (rw [hc]; rfl) | (revert hc; simp; done) | simpa using hc | (simp at hc ⊢; omega) | (simp_all; done) | fail) (b:d→e:=by intro hc; first | exact hc | exact ne_true_of_eq_false hc | exact eq_false_of_ne_true hc | (rw [hc]; rfl) | (revert hc; simp; done) | simpa using hc | (simp at hc ⊢; omega) | (simp_all; done) | fail):(c→p)∧(d→q):=
 ⟨fun hc=>h1 hc (by rwa [if_neg (a hc)] at hr),fun hc=>h2 hc (by rwa [if_pos (b hc)] at hr)⟩
theorem isI {α:Type} {e:Prop} {inst:Decidable e} {x y r:α} (_:(if e then x else y)=r):True:=trivial
theorem isI1 {σ ρ:Type} {nx:σ→Prop} {G:ρ→Prop} {e:Prop} {inst:Decidable e} {x y:Ctl σ ρ} (_:goodC nx G (if e then x else y)):True:=trivial
theorem D0 {H p:Prop} (hr:H) (h:H→p:=by
 intro hr
 repeat' first
  | ((with_reducible obtain ⟨v,hv,hr⟩:=of_bind0 hr); try simp only [hv,oG,oI,true_and,and_assoc])
  | ((with_reducible obtain ⟨v,hv,hr⟩:=of_bind1 hr); try simp only [hv,oG,oI,true_and,and_assoc])
  | (with_reducible obtain ⟨_,hr⟩:=of_guard0 hr)
  | (with_reducible obtain ⟨_,hr⟩:=of_guard1 hr)
  | ((with_reducible have:=isI hr); first | refine iW hr (fun hc hr=> ?_) fun hc hr=> ?_ | refine iV hr (fun hc hr=> ?_) fun hc hr=> ?_)
  | ((with_reducible have:=isI1 hr); first | refine iW1 hr (fun hc hr=> ?_) fun hc hr=> ?_ | refine iV1 hr (fun hc hr=> ?_) fun hc hr=> ?_)
  | refine gA ?_
  | (with_reducible have hr:=of_out0 hr)
  | (cases hr; exact lf)):p:=h hr
theorem D1 {H p A:Prop} (hs:A) (hr:H) (h:A→H→p:=by
 intro hs hr
 repeat' first
  | ((with_reducible obtain ⟨v,hv,hr⟩:=of_bind0 hr); try simp only [hv,oG,oI,true_and,and_assoc])
  | ((with_reducible obtain ⟨v,hv,hr⟩:=of_bind1 hr); try simp only [hv,oG,oI,true_and,and_assoc])
  | (with_reducible obtain ⟨_,hr⟩:=of_guard0 hr)
  | (with_reducible obtain ⟨_,hr⟩:=of_guard1 hr)
  | ((with_reducible have:=isI hr); first | refine iW hr (fun hc hr=> ?_) fun hc hr=> ?_ | refine iV hr (fun hc hr=> ?_) fun hc hr=> ?_)
  | ((with_reducible have:=isI1 hr); first | refine iW1 hr (fun hc hr=> ?_) fun hc hr=> ?_ | refine iV1 hr (fun hc hr=> ?_) fun hc hr=> ?_)
  | refine gA ?_
  | (with_reducible have hr:=of_out0 hr)
  | (refine hs _ _ _ ?_ hr; exact lf)
  | (cases hr; exact lf)):p:=h hs hr
attribute [go_sem] iC sI sO sR
end Go.Abs

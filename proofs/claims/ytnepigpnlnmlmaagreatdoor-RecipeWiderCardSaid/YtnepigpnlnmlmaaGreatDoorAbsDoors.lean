/- Listed package variables, several: what a row's condition on them gives the abstract machine; a wrap that keeps the world's shape. -/
import Derived.Test.YtnepigpnlnmlmaaGreatDoorAbsRow
import Derived.LaidMore
import Derived.OpenShut
import Derived.MakeChecks
import Derived.Lay
import Derived.Stop.LaidErr
import Derived.HandedShaped
import Derived.Shelf.Vars
set_option linter.unusedVariables false
set_option linter.unusedSimpArgs false
namespace Go.dR
theorem Jk {H:Type} {enc:TypeId×Value->H} {a:Assume} {C:Checked} {os:Os} {f:FuncId} {fn:Func} {s:ChangeSpec} {conds:List PathCond} {apart fresh handsOn again:Bool} {X:World->Array Value->Prop}
 (hX:∀ (w w':World) (args:Array Value),w.heap=w'.heap->X w args->X w' args)
 (own:ownKnob C.prog.godebug=none) (started:os.Started) (noInit:C.prog.inits.idxOf? f=none) (hfn:C.prog.funcs[f]? =some fn)
 (witness:∃ (w:World) (tape:Tape) (i:Input),w.os=os/\(w.forCall tape i).Shaped C.prog/\i.vars=[]/\Input.okWide C.prog (w.forCall tape i) .any w.heap.size f i/\
  ((s.pre enc C.prog fn conds apart (w.forCall tape i).memory i.args/\X (w.forCall tape i).memory i.args)/\sizedMet enc C.prog fn (OpenSpec.ofChange s) apart (w.forCall tape i).memory i.args)/\a.holds C.prog (lone (Frame.enter C.prog f i.args .normal) [] (w.forCall tape i)))
 (contract:∀ (W:World) (base:Nat) (args:Array Value) (ds gs:List (DataW H)) (before:List MemPlace),
  (∀ (j:Nat) t v,fn.params[j]? =some t->args[j]? =some v->Value.okWide C.prog W .any base t v)->
  DataW.Whole enc C.prog fn.params.toList s.vars apart W args.toList ds gs before->X W args->W.ShapedOpen C.prog->
  Calls C.prog f args W λe W'=>∃ v,e= .returned v/\s.post enc C.prog fn apart fresh handsOn again W args v W') :
 ReturnsInHanded a C os f .any (λw args=>(s.pre enc C.prog fn conds apart w args/\X w args)/\sizedMet enc C.prog fn (OpenSpec.ofChange s) apart w args) (s.post enc C.prog fn apart fresh handsOn again):=by
 refine returnsInHanded_of_calls own started noInit witness ?_
 intro w tape i _ hsh _ hok hpre hholds
 obtain ⟨_,_,_,fn',hfn',_,_,_,_,hval⟩:=hok
 have e:fn'=fn:=Option.some.inj (hfn'.symm.trans hfn)
 subst e
 obtain ⟨⟨⟨ds,gs,before,hw,hc⟩,hx⟩,hz⟩:=hpre
 have hw':=DataW.Whole.of_heap (w':=w.forCall tape i) (by rfl) hw
 refine (contract (w.forCall tape i) w.heap.size i.args ds gs before hval hw' (hX _ _ _ (by rfl) hx) hsh).mono λe W' ⟨v,he,hp⟩=> ?_
 subst he
 exact ChangeSpec.post_blind hp
theorem oU {P:Program} {W:World}:∀ (i:Nat) (l:List (String×DataW Unit)),laidMet P l W->laidMet P (l.drop i) W
 | 0,l,h=>h
 | i+1,[],h=>by simpa using h
 | i+1,x::l,h=>oU i l (laidMet.tail h)
theorem Ez {P:Program} {W:World} {n:String} {g:Nat} {cs:Array Value} (hg:P.globalNamed n=some g) (h:W.var? P n=some cs):∃ T z,W.heap[g]? =some (.cells cs T z):=by
 unfold World.var? at h
 rw [hg,Option.bind_some] at h
 split at h
 ·rename_i cs' T z e
  obtain rfl:=Option.some.inj h
  exact ⟨T,z,e⟩
 cases h
theorem zY {P:Program} {W:World} {n:String} {g t e:Nat} {k:IntKind} {l:List Int} {r:List (String×DataW Unit)} (hg:P.globalNamed n=some g) (ht:(P.globals[g]?).map (·.type)=some t)
 (hu:P.underlying t=some (.array l.length e)) (he:P.underlying e=some (.int k)) (hc:P.cellsOf e=1) (hct:P.cellsOf t=l.length)
 (h:laidMet P ((n,.agg (l.map λz=> .lit (.int k z)))::r) W):∃ T z,W.heap[g]? =some (.cells (l.map (Value.int k)).toArray T z):=by
 obtain ⟨ps,⟨g0,t0,cs0,f0,p0,q0,hg0,ht0,hv0,hd0,_,rfl⟩,_,hb⟩:=h
 obtain rfl:=Option.some.inj (hg.symm.trans hg0)
 obtain rfl:=Option.some.inj (ht.symm.trans ht0)
 obtain ⟨xs,m1,rfl,hx1,hlen,hn3,hel⟩:=DataW.trod_array hu hd0
 have hsz:cs0.size=l.length:=by rw [<- Array.length_toList,hlen,hct]
 have hcs:cs0=(l.map (Value.int k)).toArray:=by
  apply Array.ext
  ·rw [hsz]; simp
  intro j h1 h2
  have hj:j<l.length:=by omega
  have h1':=hel j hj
  have hj':j<xs.length:=by omega
  rw [List.getElem?_eq_getElem hj'] at h1'
  obtain ⟨x,e1,e2,_⟩:=DataW.trod_int he h1'
  have hx2:=congrArg Prod.fst hx1
  simp only [DataW.agg.injEq] at hx2
  have h3:(xs.map (·.1))[j]? =some (xs[j]).1:=by simp [hj']
  rw [<- hx2] at h3
  have h4:xs[j].1= .lit (.int k x):=by rw [e2]
  rw [h4] at h3
  have h5:(l.map λz=>(DataW.lit (.int k z):DataW Unit))[j]? =some (.lit (.int k (l[j]))):=by
   rw [List.getElem?_map,List.getElem?_eq_getElem hj]; rfl
  rw [h5] at h3
  have hk:l[j]=x:=by simpa using h3
  rw [hc,Nat.mul_one] at e1
  have h7:cs0[j]? =some (.int k x):=by
   rw [<- Array.getElem?_toList]
   have h8:((cs0.toList.drop j).take 1)[0]? =some (.int k x):=by rw [e1]; rfl
   simpa using h8
  have h9:cs0[j]? =some cs0[j]:=Array.getElem?_eq_getElem h1
  rw [h9] at h7
  rw [Option.some.inj h7, <- hk]
  simp
 rw [hcs] at hv0
 exact Ez hg hv0
theorem DL {P:Program} {n:String} {text:List UInt8} {r:List (String×DataW Unit)} {W:World} {g:Nat} {ti tp te ts:TypeId} {ms:Array (String×TypeId)} {f:Field}
 (hg:P.globalNamed n=some g) (ht:(P.globals[g]?).map (·.type)=some ti) (hi:P.underlying ti=some (.interface ms)) (hrow:∀ u,P.typeName? 3 u=some "*errors.errorString" ->u=tp)
 (hp:P.underlying tp=some (.pointer te)) (he:P.underlying te=some (.struct #[f])) (hft:f.type=ts) (hfo:f.offset=0) (hs:P.underlying ts=some .string) (hc:P.cellsOf te=1) (hcs:P.cellsOf ts=1)
 (h:laidMet P ((n,.iface "*errors.errorString" (.ptr (.agg [.lit (.string text)])))::r) W):∃ c T z,W.heap[g]? =some (.cells c T z)/\∃ t v,c[0]? =some (.iface t v):=by
 obtain ⟨a,s,hv,_⟩:=laid_sentinel h hg ht hi hrow hp he hft hfo hs hc hcs
 obtain ⟨T,z,hz⟩:=Ez hg hv
 exact ⟨_,T,z,hz,_,_,rfl⟩
theorem Qu {W:World} {g:Nat} (h:∃ m,W.cell? ⟨g,0,none⟩=some (.int .i64 m)):∃ c T z,W.heap[g]? =some (.cells c T z)/\∃ m,c[0]? =some (.int .i64 m):=by
 obtain ⟨m,h⟩:=h
 unfold World.cell? at h
 simp only at h
 split at h
 ·rename_i c T z e
  exact ⟨c,T,z,e,m,by simpa using h⟩
 cases h
theorem Ns {P:Program} {W:World} {n:String} {g t e:Nat} {l:List Int} {r:List (String×DataW Unit)} (hg:P.globalNamed n=some g) (ht:(P.globals[g]?).map (·.type)=some t)
 (hu:P.underlying t=some (.array l.length e)) (he:P.underlying e=some (.int .i64)) (hc:P.cellsOf e=1) (hct:P.cellsOf t=l.length) (hl:0<l.length)
 (h:laidMet P ((n,.agg (l.map λz=> .lit (.int .i64 z)))::r) W):∃ c T,W.heap[g]? =some (.cells c T (0,0))/\∀ j,j<l.length->c[j]? =some (.int .i64 (l.getD j 0)):=by
 obtain ⟨T',z',hz⟩:=zY hg ht hu he hc hct h
 obtain ⟨ps,⟨g0,t0,cs0,f0,p0,q0,hg0,ht0,hv0,hd0,_,rfl⟩,_,hb⟩:=h
 obtain rfl:=Option.some.inj (hg.symm.trans hg0)
 obtain rfl:=Option.some.inj (ht.symm.trans ht0)
 obtain ⟨xs,m1,rfl,hx1,hlen,hn3,hel⟩:=DataW.trod_array hu hd0
 have hsz:cs0.size=l.length:=by rw [<- Array.length_toList,hlen,hct]
 obtain ⟨⟨c,T,hheap⟩,_⟩:=hb g 0 (by
  refine List.mem_append_left _ (List.mem_append_left _ ?_)
  unfold MemPlace.row
  exact List.mem_map.2 ⟨0,by simp; omega,rfl⟩)
 rw [hheap] at hz
 refine ⟨c,T,hheap,λj hj=> ?_⟩
 have hcc:c=(l.map (Value.int .i64)).toArray:=by injection hz with e1; injection e1
 rw [hcc]
 simp [List.getD_eq_getElem?_getD,hj]
theorem LU {P:Program} {W:World} {n:String} {g t e:Nat} {l:List ByteArray} {r:List (String×DataW Unit)} (hg:P.globalNamed n=some g) (ht:(P.globals[g]?).map (·.type)=some t)
 (hu:P.underlying t=some (.array l.length e)) (he:P.underlying e=some .string) (hc:P.cellsOf e=1) (hct:P.cellsOf t=l.length)
 (h:laidMet P ((n,.agg (l.map λs=> .lit (.string s.data.toList)))::r) W):∃ c T z,W.heap[g]? =some (.cells c T z)/\aj0 l c:=by
 obtain ⟨ps,⟨g0,t0,cs0,f0,p0,q0,hg0,ht0,hv0,hd0,_,rfl⟩,_,hb⟩:=h
 obtain rfl:=Option.some.inj (hg.symm.trans hg0)
 obtain rfl:=Option.some.inj (ht.symm.trans ht0)
 obtain ⟨xs,m1,rfl,hx1,hlen,hn3,hel⟩:=DataW.trod_array hu hd0
 obtain ⟨T,z,hz⟩:=Ez hg hv0
 refine ⟨_,T,z,hz,λj hj=> ?_⟩
 have h1':=hel j hj
 have hj':j<xs.length:=by omega
 rw [List.getElem?_eq_getElem hj'] at h1'
 obtain ⟨x,e1,e2,_⟩:=DataW.trod_string he h1'
 have hx2:=congrArg Prod.fst hx1
 simp only [DataW.agg.injEq] at hx2
 have h3:(xs.map (·.1))[j]? =some (xs[j]).1:=by simp [hj']
 rw [<- hx2] at h3
 have h4:xs[j].1= .lit (.string x.data.toList):=by rw [e2]
 rw [h4] at h3
 have h5:(l.map λs=>(DataW.lit (.string s.data.toList):DataW Unit))[j]? =some (.lit (.string (l[j]).data.toList)):=by
  rw [List.getElem?_map,List.getElem?_eq_getElem hj]; rfl
 rw [h5] at h3
 have hk:l[j]=x:=by
  have h6:(l[j]).data.toList=x.data.toList:=by simpa using h3
  exact ByteArray.ext (Array.toList_inj.1 h6)
 rw [hc,Nat.mul_one] at e1
 have h7:cs0[j]? =some (.string x):=by
  rw [<- Array.getElem?_toList]
  have h8:((cs0.toList.drop j).take 1)[0]? =some (.string x):=by rw [e1]; rfl
  simpa using h8
 rw [h7, <- hk,List.getD_eq_getElem?_getD,List.getElem?_eq_getElem hj]; rfl
end Go.dR

/- Benches: which are valid; the drive of a tick. -/
import Derived.Test.YtofkgmldcjagmaaGreatDoorF02
import Derived.Test.YtofkgmldcjagmaaGreatDoorF03
import Derived.Test.YtofkgmldcjagmaaGreatDoorF04
import Derived.Test.YtofkgmldcjagmaaGreatDoorF06
import Derived.Test.YtofkgmldcjagmaaGreatDoorF12
import Derived.Test.YtofkgmldcjagmaaGreatDoorF16
import Derived.Test.YtofkgmldcjagmaaGreatDoorHeatBx
import Derived.Test.YtofkgmldcjagmaaGreatDoorHeatG
set_option linter.unusedVariables false
set_option linter.unusedSimpArgs false
namespace Go.Proofs.YtofkgmldcjagmaaGreatDoor
open Go.dJ
abbrev TL:=List (Int×Int)
structure uU (a b:Int) (T:TL) (L:List TL) (lo hi:List Int) (W:TL) (gV spread:Int):Prop where
 box:BoxOk a b T L lo hi
 bx0:jI a b T L lo hi=0
 akj:(W.length:Int)=a
 wts:∀ w∈W,(0≤w.1∧w.1≤1000)∧(0≤w.2∧w.2≤1000)∧w.1≤w.2
 gV:0≤gV∧gV<L.length
 spread:0≤spread∧spread≤4
theorem wI1 {n:Nat} (h:n<1000):IntKind.i64.wrap ((n:Int) - 1)=(n:Int) - 1:=IntWalk.i64_in _ ⟨by omega,by omega⟩
theorem jS {n lo hi:Int}:gu n lo hi=true↔lo≤n∧n≤hi:=by simp [gu]
theorem afO (a b:Int) (T:TL) (L:List TL) (lo hi:List Int) (W:TL) (gV spread n:Int) (hn:L.length<1000):r47 a b T L lo hi W gV spread n=some (gu n 0 ((L.length:Int) - 1)):=by
 unfold r47
 rw [wI1 hn,p59]; rfl
theorem unl (c:Bool) (e:Int):lG c e=some (bV c e):=by unfold lG bV; cases c<;>rfl
theorem fst (l:List Int) (hl:l.length<1000000000):wR l=some (dF l):=by
 have h:=kT (τ:=Unit) l (Gp l) (fun i _=>i) (fun _ _ x=>if x=0 then .next () else .out (some x)) (fun _=>some 0) hl
  (fun i t hi=>by
   simp only [Gp,nO hi,if_true,if_pos (kY hi),Int.toNat_natCast,wS i (by omega)]
   generalize l.getD i default=x
   by_cases hx:x=0<;>simp [hx,Ce])
  (fun t=>by simp [Gp]) ()
 unfold wR
 rw [h]
 have:∀ (r:List Int) (i:Int),jq (fun _ _ x=>if x=0 then gy.next () else .out (some x)) (fun _:Unit=>some 0) i r ()=some (dF r):=by
  intro r
  induction r with
  | nil=>intro i; rfl
  | cons x r ih=>
   intro i
   by_cases hx:x=0
   ·simp only [jq,hx,if_true,dF]; exact ih _
   ·simp only [jq,if_neg hx,dF]
 exact this l 0
theorem wit (n lo hi:Int):Ea n lo hi=some (gu n lo hi):=(rfl)
theorem uU.few {a b:Int} {T:TL} {L:List TL} {lo hi:List Int} {W:TL} {gV spread:Int} (B:uU a b T L lo hi W gV spread):T.length<1000∧L.length<1000∧(∀ x∈L,x.length<1000)∧lo.length≤12∧hi.length≤12∧W.length≤12:=by
 have ok:=B.box.lo.ok
 have h1:=B.box.lo.len; have h2:=B.box.hi.len; have h3:=B.akj; have h4:=ok.cells; have h5:=ok.AQ; have h6:=ok.llen
 refine ⟨by omega,by omega,fun x hx=> ?_,by omega,by omega,by omega⟩
 obtain ⟨j,hj,rfl⟩:=List.getElem_of_mem hx
 have:=(ok.laws j hj).len
 rw [List.getD_eq_getElem?_getD,List.getElem?_eq_getElem hj,Option.getD_some] at this
 omega
def GR (L:List TL) (t:TL):Prop:=t.length≤200∧∀ x∈t,(0≤x.1∧x.1≤10000)∧0≤x.2∧x.2<L.length
theorem last {a b:Int} {T:TL} {L:List TL} {lo hi:List Int} {W:TL} {gV spread:Int} (hn:L.length<1000):r43 a b T L lo hi W gV spread=some ((L.length:Int) - 1):=by
 unfold r43; rw [wI1 hn]
end Go.Proofs.YtofkgmldcjagmaaGreatDoor

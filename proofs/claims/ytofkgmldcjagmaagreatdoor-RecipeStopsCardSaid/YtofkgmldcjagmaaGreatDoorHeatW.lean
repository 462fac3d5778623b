import Derived.Test.YtofkgmldcjagmaaGreatDoorF01
import Derived.Test.YtofkgmldcjagmaaGreatDoorF12
import Derived.Test.YtofkgmldcjagmaaGreatDoorAbsC
set_option linter.unusedVariables false
set_option linter.unusedSimpArgs false
namespace Go.Proofs.YtofkgmldcjagmaaGreatDoor
open Go.Abs
theorem gS {p:Prop} {α β:Type} {v:α} [Decidable (p→(some v).isSome=true)] {a b:β}:(if p→(some v).isSome=true then a else b)=a:=if_pos (fun _=>rfl)
theorem p90 (a b c:Int):r83 a b c=some (inR a b c):=rfl
theorem p59 (a b c:Int):r16 a b c=some (inR a b c):=rfl
theorem p94 (b:Bool) (e:Int):r118 b e=some (codeIf b e):=by
 unfold r118 codeIf; cases b<;>rfl
theorem p91 (l:List Int) (hl:l.length<1000000000):r117 l=some (firstV l):=by
 have h:=iter_list (τ:=Unit) l (b117_1 l) (fun i _=>i) (fun _ _ x=>if x=0 then .next () else .out (some x)) (fun _=>some 0) hl
  (fun i t hi=>by
   simp only [b117_1,ltN hi,if_true,if_pos (rgN hi),Int.toNat_natCast,wS i (by omega)]
   generalize l.getD i default=x
   by_cases hx:x=0<;>simp [hx,mapC])
  (fun t=>by simp [b117_1]) ()
 unfold r117
 rw [h]
 have:∀ (r:List Int) (i:Int),foldC (fun _ _ x=>if x=0 then Ctl.next () else .out (some x)) (fun _:Unit=>some 0) i r ()=some (firstV r):=by
  intro r
  induction r with
  | nil=>intro i; rfl
  | cons x r ih=>
   intro i
   by_cases hx:x=0
   ·simp only [foldC,hx,if_true,firstV]; exact ih _
   ·simp only [foldC,if_neg hx,firstV]
 exact this l 0
def idxV (p:Int→Bool):Int→List Int→Int
 | _,[]=> -1
 | i,x::r=>if p x then i else idxV p (i+1) r
theorem idx_fold (p:Int→Bool):∀ (r:List Int) (i:Int),foldC (fun i _ x=>if p x then (.out (some i):Ctl Unit Int) else .next ()) (fun _:Unit=>some (-1)) i r ()=some (idxV p i r)
 | [],i=>rfl
 | x::r,i=>by
  cases hx:p x with
  | true=>simp [foldC,hx,idxV]
  | false=>simp only [foldC,hx,idxV]; exact idx_fold p r (i+1)
theorem idx_ge (p:Int→Bool):∀ (l:List Int) (i:Int),0≤i→(decide (idxV p i l≥0))=l.any p
 | [],i,h=>by simp [idxV]
 | x::r,i,h=>by
  cases hx:p x with
  | true=>simp [idxV,hx,h]
  | false=>simp only [idxV,hx,List.any_cons,Bool.false_or]; exact idx_ge p r (i+1) (by omega)
theorem p19 (l:List Int) (hl:l.length<1000000000):r79 l=some l:=by
 unfold r79; rw [if_pos ⟨by omega,by omega⟩]
end Go.Proofs.YtofkgmldcjagmaaGreatDoor

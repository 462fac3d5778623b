/- Benches: which are valid; the drive of a tick. -/
import Derived.Test.YtkbdjphdhcgmaaaGreatDoorF02
import Derived.Test.YtkbdjphdhcgmaaaGreatDoorHeatBx
import Derived.Test.YtkbdjphdhcgmaaaGreatDoorHeatG
set_option linter.unusedVariables false
set_option linter.unusedSimpArgs false
namespace Go.Proofs.YtkbdjphdhcgmaaaGreatDoor
open Go.Abs
abbrev TL:=List (Int×Int)
structure BenOk (a b:Int) (T:TL) (L:List TL) (lo hi:List Int) (W:TL) (air spread:Int):Prop where
 box:BoxOk a b T L lo hi
 bx0:bxErr a b T L lo hi=0
 wlen:(W.length:Int)=a
 wts:∀ w∈W,(0≤w.1∧w.1≤1000)∧(0≤w.2∧w.2≤1000)∧w.1≤w.2
 air:0≤air∧air<L.length
 spread:0≤spread∧spread≤4
theorem inR_iff' {n lo hi:Int}:inR n lo hi=true↔lo≤n∧n≤hi:=by simp [inR]
theorem unl (c:Bool) (e:Int):r40 c e=some (codeIf c e):=by unfold r40 codeIf; cases c<;>rfl
theorem fst (l:List Int) (hl:l.length<1000000000):r39 l=some (firstV l):=by
 have h:=iter_list (τ:=Unit) l (b39_1 l) (fun i _=>i) (fun _ _ x=>if x=0 then .next () else .out (some x)) (fun _=>some 0) hl
  (fun i t hi=>by
   simp only [b39_1,ltN hi,if_true,if_pos (rgN hi),Int.toNat_natCast,wS i (by omega)]
   generalize l.getD i default=x
   by_cases hx:x=0<;>simp [hx,mapC])
  (fun t=>by simp [b39_1]) ()
 unfold r39
 rw [h]
 have:∀ (r:List Int) (i:Int),foldC (fun _ _ x=>if x=0 then Ctl.next () else .out (some x)) (fun _:Unit=>some 0) i r ()=some (firstV r):=by
  intro r
  induction r with
  | nil=>intro i; rfl
  | cons x r ih=>
   intro i
   by_cases hx:x=0
   ·simp only [foldC,hx,if_true,firstV]; exact ih _
   ·simp only [foldC,if_neg hx,firstV]
 exact this l 0
theorem wit (n lo hi:Int):r46 n lo hi=some (inR n lo hi):=(rfl)
theorem BenOk.few {a b:Int} {T:TL} {L:List TL} {lo hi:List Int} {W:TL} {air spread:Int} (B:BenOk a b T L lo hi W air spread):T.length<1000∧L.length<1000∧(∀ x∈L,x.length<1000)∧lo.length≤12∧hi.length≤12∧W.length≤12:=by
 have ok:=B.box.lo.ok
 have h1:=B.box.lo.len; have h2:=B.box.hi.len; have h3:=B.wlen; have h4:=ok.cells; have h5:=ok.tlen; have h6:=ok.llen
 refine ⟨by omega,by omega,fun x hx=> ?_,by omega,by omega,by omega⟩
 obtain ⟨j,hj,rfl⟩:=List.getElem_of_mem hx
 have:=(ok.laws j hj).len
 rw [List.getD_eq_getElem?_getD,List.getElem?_eq_getElem hj,Option.getD_some] at this
 omega
end Go.Proofs.YtkbdjphdhcgmaaaGreatDoor

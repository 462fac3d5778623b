/- Contracts of functions, written by wip/dec. -/
import Derived.Test.YtnepigpnlnmlmaaGreatDoorF00
set_option linter.unusedVariables false
set_option linter.unusedSimpArgs false
set_option linter.constructorNameAsVariable false
set_option maxHeartbeats 4000000
set_option maxRecDepth 20000
namespace Go.Proofs.YtnepigpnlnmlmaaGreatDoor
open Go.dR
section
variable {β:Type} [Inhabited β] (u:β->List RV) (al:Bool)
end
def Yk (x0:aA) (a1:Int):Bd Int (Int×Int):=λs1=>
 if 0<=s1/\s1<(x0.length:Int) then
  if (decide (((x0.getD s1.toNat default).1)<a1))=true then
   .next (IntKind.i64.wrap (s1+1))
   else .out (if 0<=IntKind.i64.wrap (s1 - 1)/\IntKind.i64.wrap (s1 - 1)<(x0.length:Int) then
    if 0<=s1/\s1<(x0.length:Int) then
     some (IntKind.i64.wrap ((IntKind.i64.wrap (((x0.getD (IntKind.i64.wrap (s1 - 1)).toNat default).2)*(IntKind.i64.wrap (((x0.getD s1.toNat default).1) - ((x0.getD (IntKind.i64.wrap (s1 - 1)).toNat default).1)))))+(IntKind.i64.wrap ((IntKind.i64.wrap (((x0.getD s1.toNat default).2) - ((x0.getD (IntKind.i64.wrap (s1 - 1)).toNat default).2)))*(IntKind.i64.wrap (a1 - ((x0.getD (IntKind.i64.wrap (s1 - 1)).toNat default).1)))))),IntKind.i64.wrap (((x0.getD s1.toNat default).1) - ((x0.getD (IntKind.i64.wrap (s1 - 1)).toNat default).1)))
     else none
    else none)
  else .out none
def r42 (x1 x2:Int) (x0:aA) (x3:au) (a1:Int):Option (Int×Int):=
 aK (Yk x0 a1) 1000000000 1
end Go.Proofs.YtnepigpnlnmlmaaGreatDoor

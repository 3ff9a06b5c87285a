/- An append of zeros to the empty slice: the step of Grow. It holds over any program. -/
import Derived.Test.YtcoaljcfifecgagGreatDoorSxI
import Derived.Lib.AppendZeros
namespace Sx
open Go
section
variable {P:Program} {α:Type} {E:Rp α} {q:α} {l:List α} {a:Act} {w0 w:World} {ros:List Fact} {rs:List Res} {d:Option Tmp} {t:TypeId} {p:String} {af:Array Edge} {g:Option (Nat×Bool)} {x y:Operand} {T tn e:TypeId} {ik kn:IntKind} {n:Int}
end
end Sx

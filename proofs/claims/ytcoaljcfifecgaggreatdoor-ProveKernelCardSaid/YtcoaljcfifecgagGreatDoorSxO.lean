/- Queues: a slice of the call's own whose head is cut off, and that is appended to. It holds over any program. -/
import Derived.Test.YtcoaljcfifecgagGreatDoorSxL
namespace Sx
open Go
section
variable {P:Program} {α:Type} {E:Rp α} {q:α} {l m k:List α} {a:Act} {w0 w:World} {ros:List Fact} {rs:List Res} {d:Option Tmp} {t:TypeId} {p:String} {af:Array Edge} {g:Option (Nat×Bool)} {x y:Operand} {v u:Value} {T U e:TypeId} {h:Hdr}
end
end Sx

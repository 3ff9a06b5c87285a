/- One step of the search by breadth, whatever program makes it. -/
import Derived.Test.YthpeajepbffinaaPsF
namespace Pl
open Sx Go M

end Pl

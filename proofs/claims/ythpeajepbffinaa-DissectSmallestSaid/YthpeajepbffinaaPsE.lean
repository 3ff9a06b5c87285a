/- The document's levels. (Under way.) -/
import Derived.Test.YthpeajepbffinaaPsC
namespace Pl
open Sx Go M

end Pl

/- The document's levels. (Under way.) -/
import Derived.Test.YthpeajepbffinaaGreatPsC
namespace Pl
open Sx Go M

end Pl

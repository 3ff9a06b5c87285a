/- The law of the levels over the models. -/
import Derived.Test.YthpeajepbffinaaPtA
import Derived.KernelRfl
namespace Pl
open Sx Go M

end Pl

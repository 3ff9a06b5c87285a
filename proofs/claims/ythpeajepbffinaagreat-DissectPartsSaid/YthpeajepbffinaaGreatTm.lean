/- How the struct values of this program lie in cells. -/
import Derived.Test.YthpeajepbffinaaGreatSxO
namespace Sx
open Go

end Sx

/- How the struct values of this program lie in cells. -/
import Derived.Test.YtnfamnfdndaekaaGreatDoorSxO
import Derived.Test.YtnfamnfdndaekaaGreatDoorSxU
namespace Sx
open Go

end Sx

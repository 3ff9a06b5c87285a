/- How the struct values of this program lie in cells. -/
import Derived.Test.YtoelidgkfpmgnaaSxH
namespace Sx
open Go

end Sx

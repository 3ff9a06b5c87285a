/- How the struct values of this program lie in cells. -/
import Derived.Test.YtpfmbaidflhamaaDoorSxO
import Derived.Test.YtpfmbaidflhamaaDoorSxU
namespace Sx
open Go

end Sx

/- How the struct values of this program lie in cells. -/
import Derived.Test.YtpfmbaidflhamaaGreatDoorSxO
import Derived.Test.YtpfmbaidflhamaaGreatDoorSxU
namespace Sx
open Go

end Sx

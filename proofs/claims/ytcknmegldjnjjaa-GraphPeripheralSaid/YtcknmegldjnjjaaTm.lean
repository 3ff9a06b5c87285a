/- How the struct values of this program lie in cells. -/
import Derived.Test.YtcknmegldjnjjaaSxJ
namespace Sx
open Go

end Sx

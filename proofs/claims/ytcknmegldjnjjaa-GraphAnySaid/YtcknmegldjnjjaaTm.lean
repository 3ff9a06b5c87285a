/- How the struct values of this program lie in cells. -/
import Derived.Test.YtcknmegldjnjjaaSxK
namespace Sx
open Go

end Sx

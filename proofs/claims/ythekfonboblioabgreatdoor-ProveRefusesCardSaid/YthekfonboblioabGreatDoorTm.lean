/- How the struct values of this program lie in cells. -/
import Derived.Test.YthekfonboblioabGreatDoorSxO
import Derived.Test.YthekfonboblioabGreatDoorSxU
import Derived.Test.YthekfonboblioabGreatDoorSxZ
namespace Sx
open Go
def rTi64i64u64 : Rp (Int × Int × Int) := rF 3 (fun z => [.int .i64 z.1, .int .i64 z.2.1, .int .u64 z.2.2]) A0 (fun _ => rfl) (fun _ v h => by simp at h; rcases h with rfl | rfl | rfl <;> rfl)
end Sx

/- How the struct values of this program lie in cells. -/
import Derived.Test.YtoahkigijbeegaaGreatDoorSxO
import Derived.Test.YtoahkigijbeegaaGreatDoorSxU
import Derived.Test.YtoahkigijbeegaaGreatDoorSyM
namespace Sx
open Go
def rTi64i64u64 : Rp (Int × Int × Int) := rF 3 (fun z => [.int .i64 z.1, .int .i64 z.2.1, .int .u64 z.2.2]) n0 (fun _ => rfl) (fun _ v h => by simp at h; rcases h with rfl | rfl | rfl <;> rfl)
end Sx

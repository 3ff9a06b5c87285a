/- Sorting: the library's. -/
import Derived.Test.YthpeajepbffinaaPlB
import Derived.Test.YthpeajepbffinaaM4
namespace Pl
open Sx Go M

theorem sort_ok {l : List Int} (hl : l.length ≤ 30) : ∃ m, sortI l = some m ∧ m.Perm l ∧ m.Pairwise (· ≤ ·) := by
 unfold sortI BIG
 rw [if_pos (by omega)]
 exact ⟨_, rfl, isortI_perm l, isortI_sorted l⟩
end Pl

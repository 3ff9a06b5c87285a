/- The document's elimination over the models. -/
import Derived.Test.YtoelidgkfpmgnaaDoorPlO
import Derived.KernelRfl
namespace Pl
open Sx Go M

/-- a table that says what a relation says -/
def Ts (T : List (List Bool)) (n : Nat) (R : Nat → Nat → Prop) : Prop := ∃ b, Tb T n b ∧ ∀ i j, i < n → j < n → (b i j = true ↔ R i j)

end Pl

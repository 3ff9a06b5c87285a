/- The law of the ancestors over the models. -/
import Derived.Test.YtoelidgkfpmgnaaDoorPlM
namespace Pl
open Sx Go M

theorem Up.cases {par : List Int} {u a : Nat} (h : Up par u a) : u = a ∨ ∃ q : Nat, par[u]? = some (q : Int) ∧ Up par q a := by
  obtain ⟨k, hk⟩ := h
  cases k with
  | zero => exact .inl hk
  | succ k => obtain ⟨q, h1, h2⟩ := hk; exact .inr ⟨q, h1, k, h2⟩
theorem Fo.inc {par : List Int} (hF : Fo par) (u : Nat) (p : Int) (h : par[u]? = some p) : p = -1 ∨ (u : Int) < p :=
  (hF u (List.getElem?_eq_some_iff.1 h).1 p h).imp id (·.1)

end Pl

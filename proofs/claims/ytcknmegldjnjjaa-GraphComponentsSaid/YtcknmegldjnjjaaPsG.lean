/- The levels are settled by the graph and the root. -/
import Derived.Test.YtcknmegldjnjjaaPsF
namespace Pl
open Sx Go M

theorem BF.lev_le {adj : List (List Int)} {root : Nat} {lev : Nat → Nat} {seen : List Bool} {out : List (List Int)} (h : BF adj root lev seen out []) (u : Nat) (hu : u < adj.length) : lev u ≤ out.length := by
  have h1 := h.top u hu
  have h2 := (h.lst out.length [] (by simp)).2.2 u hu
  simp at h2
  omega
theorem BF.lev_one {adj : List (List Int)} {root : Nat} {lev lev' : Nat → Nat} {seen seen' : List Bool} {out out' : List (List Int)} (h : BF adj root lev seen out []) (h' : BF adj root lev' seen' out' []) :
    ∀ j u, u < adj.length → lev u = j + 1 → lev' u ≠ 0 ∧ lev' u ≤ j + 1 := by
  intro j
  induction j with
  | zero =>
    intro u hu hl
    have := (h'.rt u hu).2 ((h.rt u hu).1 hl)
    omega
  | succ j ih =>
    intro u hu hl
    obtain ⟨w, hw, hn, he⟩ := h.back u hu (by omega)
    have h1 := ih w hw (by omega)
    have h2 := h'.edge w u hw hn h1.1 (h'.lev_le w hw)
    exact ⟨h2.1, by omega⟩
theorem BF.lev_eq {adj : List (List Int)} {root : Nat} {lev lev' : Nat → Nat} {seen seen' : List Bool} {out out' : List (List Int)} (h : BF adj root lev seen out []) (h' : BF adj root lev' seen' out' []) (u : Nat) (hu : u < adj.length) : lev u = lev' u := by
  have key : lev u ≠ 0 → lev' u ≠ 0 ∧ lev' u ≤ lev u := fun h0 => by
    have := h.lev_one h' (lev u - 1) u hu (by omega)
    omega
  have key' : lev' u ≠ 0 → lev u ≠ 0 ∧ lev u ≤ lev' u := fun h0 => by
    have := h'.lev_one h (lev' u - 1) u hu (by omega)
    omega
  omega
end Pl

/- The law of the levels over the models. -/
import Derived.Test.YthpeajepbffinaaGreatPtA
import Derived.KernelRfl
namespace Pl
open Sx Go M

theorem gAsc_ok {l : List Int} (h : l.Pairwise (· < ·)) (hl : l.length < 1000000) : sparsekit_Ascending l = some true := by
 unfold sparsekit_Ascending
 obtain ⟨o, h1, h2⟩ := whileG (step := sparsekit_Ascending_l1 l) (s := 1) (fun s => ∃ k : Nat, s = (k : Int) ∧ 1 ≤ k) (fun o => o = .inl ()) (fun s => (l.length - s).toNat) ⟨1, rfl, by omega⟩ (by omega) (by
   rintro s ⟨k, rfl, hk1⟩
   unfold sparsekit_Ascending_l1
   by_cases hc : k < l.length
   ·have e : ws .i64 (k : Int) 1 = ((k - 1 : Nat) : Int) := by rw [ws_in (by constructor <;> omega)]; omega
    have := asc_get h hc (i := k - 1) (by omega)
    rw [if_pos (by omega), bindS (getI_lt hc), e, bindS (getI_lt (by omega)), if_neg (by omega), wa1 (by omega)]
    exact .inl ⟨_, rfl, ⟨k + 1, rfl, by omega⟩, by omega⟩
   ·rw [if_neg (by omega)]
    exact .inr ⟨_, rfl, rfl⟩)
 rw [bindS h1, h2]

end Pl

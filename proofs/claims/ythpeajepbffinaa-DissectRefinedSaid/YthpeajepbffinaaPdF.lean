/- DissectCoarse: coarsening keeps the weight and the cuts. -/
import Derived.Test.YthpeajepbffinaaPdE
namespace Pd
open Pl Sx Go M Vc
set_option linter.unusedVariables false
set_option linter.unusedSimpArgs false
set_option maxHeartbeats 4000000

theorem total_ok {vx : List Int} {n : Nat} (hn : n ≤ 200) (hl : vx.length = n) (hw : ∀ x, x ∈ vx → Wg x) (a e : List (List Int)) : sparseref18_Total a vx e = some (sm n (vw vx)) := by
  have hv : ∀ v, v < n → vx[v]? = some (vw vx v) ∧ 1 ≤ vw vx v ∧ vw vx v ≤ 1099511627776 := by
    intro v hvn
    obtain ⟨x, hx⟩ : ∃ x, vx[v]? = some x := ⟨vx[v]'(by omega), by simp [show v < vx.length by omega]⟩
    have := hw x (mem_get hx)
    rw [vw_get hx]
    exact ⟨hx, this.1, this.2⟩
  have hb : ∀ k, k ≤ n → 0 ≤ sm k (vw vx) ∧ sm k (vw vx) ≤ k * 1099511627776 := by
    intro k hk
    exact ⟨sm_nonneg fun i hi => by have := hv i (by omega); omega, sm_bound fun i hi => (hv i (by omega)).2.2⟩
  have h1 : loop (sparseref18_Total_l1 vx) (0, 0) = some (sm n (vw vx)) := by
    refine Ret.eq ?_
    refine ret_loop n (fun k (t : Int × Int) => t = (sm k (vw vx), (k : Int))) rfl ?_
    rintro k _ hk rfl
    unfold sparseref18_Total_l1
    by_cases hkn : k < n
    · obtain ⟨g1, g2, g3⟩ := hv k hkn
      have e1 : getI vx (k : Int) = some (vw vx k) := g1
      have e5 : (k : Int) < (vx.length : Int) := by omega
      have hw : wa .i64 (k : Int) 1 = ((k + 1 : Nat) : Int) := wa1 (by omega)
      obtain ⟨b1, b2⟩ := hb k hk
      have hk2 : (k : Int) * 1099511627776 ≤ 200 * 1099511627776 := by omega
      have hw2 : wa .i64 (sm k (vw vx)) (vw vx k) = sm (k + 1) (vw vx) := by
        rw [wa_in (by constructor <;> omega)]
        rfl
      clear hb
      simp only [ret_bind, ret_if, ret_get, ret_set, ret_app, ret_mkL, ret_sli, ret_wr, ret_wq, ret_some, vq_l, vq_r, Int.toNat_natCast, if_true, if_false, obs, decide_false, decide_true, Bool.false_eq_true, Bool.not_true, Bool.not_false, not_true_eq_false, not_false_eq_true, true_implies, false_implies, reduceCtorEq, true_and, and_true, false_and, or_false, false_or, implies_true, e1, e5, hw, hw2]
      omega
    · have e5 : ¬ (k : Int) < (vx.length : Int) := by omega
      have : k = n := by omega
      subst this
      simp only [ret_bind, ret_if, ret_get, ret_set, ret_app, ret_mkL, ret_sli, ret_wr, ret_wq, ret_some, vq_l, vq_r, Int.toNat_natCast, if_true, if_false, obs, decide_false, decide_true, Bool.false_eq_true, Bool.not_true, Bool.not_false, not_true_eq_false, not_false_eq_true, true_implies, false_implies, reduceCtorEq, true_and, and_true, false_and, or_false, false_or, implies_true, e5]
  unfold sparseref18_Total
  rw [bindS h1]

theorem cut_congr {n : Nat} {W : Nat → Nat → Int} {s t : Nat → Int} (h : ∀ v, v < n → s v = t v) : cut n W s = cut n W t := by
  unfold cut
  refine sm_congr fun v hv => sm_congr fun u hu => ?_
  rw [h v hv, h u hu]

end Pd

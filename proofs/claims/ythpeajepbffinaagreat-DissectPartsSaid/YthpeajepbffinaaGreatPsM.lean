/- The document's levels are the program's, and a class is what they list. -/
import Derived.Test.YthpeajepbffinaaGreatPsI
import Derived.Test.YthpeajepbffinaaGreatPsK
set_option linter.unusedSimpArgs false
set_option linter.unusedVariables false
namespace Pl
open Sx Go M Vc

theorem kin_ok {l : List Int} {v : Int} (hl : l.length < 1000000) {Q : Bool → Prop} : Ret (sparsekit_In l v) Q = Q (decide (v ∈ l)) := by
 refine ret_of (Ret.eq ?_)
 unfold sparsekit_In
 simp only [ret_bind]
 refine ret_loop l.length (fun k (t : Int) => t = k ∧ v ∉ l.take k) (by simp) ?_
 intro k t hk hI
 unfold sparsekit_In_l1
 simp only [ret_bind, ret_if, ret_get, ret_some, vq_l, vq_r]
 grind [List.take_add_one, List.mem_iff_getElem?]

theorem rCheck_ok {adj : List (List Int)} (hG : Gr adj) (hn : adj.length ≤ 200) : sparseref12_Check adj = some 0 := by
 have hb := fun v l (h : adj[v]? = some l) => hG.len h
 refine Ret.eq ?_
 unfold sparseref12_Check
 rw [if_neg (by omega), ret_bind]
 refine ret_loop adj.length (fun k (t : Int) => t = k) rfl ?_
 rintro k t hk rfl
 unfold sparseref12_Check_l21
 simp only [ret_bind, ret_if, ret_get, ret_some, vq_l, vq_r, Int.toNat_natCast]
 refine ⟨fun h => ⟨by omega, h, fun l hl => ?_⟩, fun h => trivial⟩
 have hll := hb k l hl
 rw [ret_of (gAsc_ok (hG.asc k l hl) (by omega))]
 refine ⟨fun _ => ?_, fun h => absurd rfl h⟩
 refine ret_loop l.length (fun j (t : Int) => t = j) rfl ?_
 rintro j t hj rfl
 unfold sparseref12_Check_l28
 simp only [ret_bind, ret_if, ret_get, ret_some, vq_l, vq_r, Int.toNat_natCast]
 refine ⟨by omega, by omega, fun l' hl' => ?_⟩
 obtain rfl : l = l' := by rw [hl] at hl'; exact Option.some.inj hl'
 refine ⟨fun h2 => ⟨by omega, by omega, fun l' hl' => ?_⟩, fun h2 => ?_⟩
 ·obtain rfl : l = l' := by rw [hl] at hl'; exact Option.some.inj hl'
  refine ⟨by omega, by omega, fun x hx => ?_⟩
  have hr := hG.rng k l x hl (List.mem_of_getElem? hx)
  obtain ⟨m, hm, hkm⟩ := hG.sym k l x hl (List.mem_of_getElem? hx)
  have hml := hb _ m hm
  refine ⟨fun h3 => ?_, fun h3 => ⟨hr.1, hr.2.1, fun m' hm' => ?_⟩⟩
  ·simp at h3; omega
  ·obtain rfl : m = m' := by rw [hm] at hm'; exact Option.some.inj hm'
   rw [kin_ok (by omega)]
   simp [hkm]
   rw [wa_i (by omega) (by omega)]
   omega
 ·have : k < adj.length := by omega
  rw [wa_i (by omega) (by omega)]
  omega

end Pl

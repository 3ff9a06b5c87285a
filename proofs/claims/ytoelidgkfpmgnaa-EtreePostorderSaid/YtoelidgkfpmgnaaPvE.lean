/- The law EtreePostorder. -/
import Derived.Test.YtoelidgkfpmgnaaPvD
set_option linter.unusedSimpArgs false
set_option linter.unusedVariables false
namespace Pv
open Pu Pl Sx Go M Vc

open Classical in
theorem coll_gr {R : Nat → Nat → Prop} {n : Nat} (hs : ∀ i j, R i j → R j i) (hi : ∀ i, ¬ R i i) : Gr ((List.range n).map fun i => coll (fun j => R i j) n) := by
  have hg : ∀ (v : Nat) l, ((List.range n).map fun i => coll (fun j => R i j) n)[v]? = some l → v < n ∧ l = coll (fun j => R v j) n := by
    intro v l h
    have hv : v < n := by have := (List.getElem?_eq_some_iff.1 h).1; simpa using this
    refine ⟨hv, ?_⟩
    simp [hv] at h; exact h.symm
  refine ⟨?_, ?_, ?_⟩
  · intro v l h
    obtain ⟨_, rfl⟩ := hg v l h
    exact coll_asc n
  · intro v l x h hx
    obtain ⟨hv, rfl⟩ := hg v l h
    have := (coll_mem n).1 hx
    simp only [List.length_map, List.length_range]
    refine ⟨by omega, by omega, ?_⟩
    rintro rfl
    exact hi v (by simpa using this.2.2)
  · intro v l x h hx
    obtain ⟨hv, rfl⟩ := hg v l h
    have hm := (coll_mem n).1 hx
    exact ⟨coll (fun j => R x.toNat j) n, by simp [hm.2.1], (coll_mem n).2 ⟨by omega, by simpa using hv, by simpa using hs _ _ hm.2.2⟩⟩
open Classical in
theorem coll_ee {R : Nat → Nat → Prop} {n i j : Nat} (hi : i < n) (hj : j < n) : EE ((List.range n).map fun i => coll (fun j => R i j) n) 0 i j ↔ R i j := by
  show (∃ l, ((List.range n).map fun i => coll (fun j => R i j) n)[i]? = some l ∧ (j : Int) ∈ l) ↔ _
  constructor
  · rintro ⟨l, h, hx⟩
    simp [hi] at h
    subst h
    simpa using ((coll_mem n).1 hx).2.2
  · intro h
    exact ⟨coll (fun j => R i j) n, by simp [hi], (coll_mem n).2 ⟨by omega, by simpa using hj, by simpa using h⟩⟩

theorem PermN.pm {L : List Int} {n : Nat} (h : PermN L n) : Pm L n := ⟨h.len, h.nodup, h.1⟩
theorem natP (n : Nat) : PermN ((List.range n).map fun (i : Nat) => (i : Int)) n := by
  refine ⟨fun x hx => ?_, fun u hu => ?_⟩
  · simp only [List.mem_map, List.mem_range] at hx
    obtain ⟨a, ha, rfl⟩ := hx
    omega
  · have h3 : ((List.range n).map fun (u : Nat) => (u : Int)).Nodup := List.Pairwise.map _ (fun a b hab => by omega) (List.nodup_range (n := n))
    have h4 := List.nodup_iff_count.1 h3 (u : Int)
    have h5 : (u : Int) ∈ (List.range n).map fun (u : Nat) => (u : Int) := by rw [List.mem_map]; exact ⟨u, by simpa using hu, rfl⟩
    have h6 := List.count_pos_iff.2 h5
    omega
theorem natL (n : Nat) : Lab n (fun i => i) (fun i => i) := ⟨fun _ h => h, fun _ h => h, fun _ _ => rfl, fun _ _ => rfl⟩

theorem relq_get {par : List Int} {n : Nat} {O A : Nat → Nat} {k : Nat} (hk : k < n) {x : Int} (hx : par[O k]? = some x) : (relq par n O A)[k]? = some (if 0 ≤ x then (A x.toNat : Int) else -1) := by
  unfold relq
  rw [List.getElem?_map, List.getElem?_range hk]
  simp only [Option.map_some, hx, Option.getD_some]

theorem postLoop {par inv L : List Int} {n : Nat} {O A : Nat → Nat} (hn : n ≤ 200) (hF : Fo par) (hl : par.length = n) (hLl : L.length = n) (hO : ∀ i, i < n → O i < n) (ho : ∀ i, i < n → L[i]? = some (O i : Int)) (ha : ∀ v, v < n → inv[v]? = some (A v : Int)) :
    loop (sparselaw19_EtreePostorder_l15 (n : Int) (L, 0) (par, 0) inv (relq par n O A, 0) ((List.range n).map fun (i : Nat) => (i : Int), 0)) ([], 0) = some (.inl ((List.range n).map fun (i : Nat) => (i : Int))) := by
  refine Ret.eq ?_
  refine ret_loop n (fun k (t : List Int × Int) => t.2 = k ∧ t.1 = (List.range k).map fun (i : Nat) => (i : Int)) ⟨rfl, rfl⟩ ?_
  rintro k ⟨s, i⟩ hk ⟨rfl, hs⟩
  simp only at hs
  subst hs
  unfold sparselaw19_EtreePostorder_l15 sparselaw19_EtreePostorder_j20
  by_cases hkn : k < n
  · have hok := hO k hkn
    obtain ⟨x, hx⟩ : ∃ x, par[O k]? = some x := ⟨par[O k]'(by omega), by simp [show O k < par.length by omega]⟩
    have hf := hF (O k) (by omega) x hx
    have e1 : getI L (k : Int) = some (O k : Int) := ho k hkn
    have e2 : getI par (O k : Int) = some x := hx
    have e3 : getI (relq par n O A) (k : Int) = some (if 0 ≤ x then (A x.toNat : Int) else -1) := relq_get hkn hx
    have e4 : getI ((List.range n).map fun (i : Nat) => (i : Int)) (k : Int) = some (k : Int) := by
      show ((List.range n).map fun (i : Nat) => (i : Int))[k]? = _
      simp [hkn]
    have e5 : (k : Int) < (n : Int) := by omega
    have hw : wa .i64 (k : Int) 1 = ((k + 1 : Nat) : Int) := wa1 (by omega)
    by_cases h0 : 0 ≤ x
    · have e6 : x < (n : Int) := by omega
      have e7 : getI inv x = some (A x.toNat : Int) := getI_of h0 (ha _ (by omega))
      rw [if_pos h0] at e3
      simp only [ret_bind, ret_if, ret_get, ret_set, ret_app, ret_mkL, ret_sli, ret_wr, ret_wq, ret_some, vq_l, vq_r, Int.toNat_natCast, if_true, if_false, obs, decide_false, decide_true, Bool.false_eq_true, Bool.not_true, Bool.not_false, not_true_eq_false, not_false_eq_true, true_implies, false_implies, reduceCtorEq, true_and, and_true, false_and, or_false, false_or, implies_true, e1, e2, e3, e4, e5, e6, e7, h0, hw]
      refine ⟨by rw [List.length_map, List.length_range, List.length_singleton]; omega, hkn, ?_⟩
      rw [List.range_succ, List.map_append]; rfl
    · rw [if_neg h0] at e3
      simp only [ret_bind, ret_if, ret_get, ret_set, ret_app, ret_mkL, ret_sli, ret_wr, ret_wq, ret_some, vq_l, vq_r, Int.toNat_natCast, if_true, if_false, obs, decide_false, decide_true, Bool.false_eq_true, Bool.not_true, Bool.not_false, not_true_eq_false, not_false_eq_true, true_implies, false_implies, reduceCtorEq, true_and, and_true, false_and, or_false, false_or, implies_true, e1, e2, e3, e4, e5, h0, hw]
      refine ⟨by rw [List.length_map, List.length_range, List.length_singleton]; omega, hkn, ?_⟩
      rw [List.range_succ, List.map_append]; rfl
  · have e5 : ¬ (k : Int) < (n : Int) := by omega
    simp only [ret_bind, ret_if, ret_get, ret_set, ret_app, ret_mkL, ret_sli, ret_wr, ret_wq, ret_some, vq_l, vq_r, Int.toNat_natCast, if_true, if_false, obs, decide_false, decide_true, Bool.false_eq_true, Bool.not_true, Bool.not_false, not_true_eq_false, not_false_eq_true, true_implies, false_implies, reduceCtorEq, true_and, and_true, false_and, or_false, false_or, implies_true, e5]
    rw [show k = n by omega]

open Classical in
theorem etreePostorder_true (x1 : Int) (x2 : List Int) : sparselaw19_EtreePostorder x1 x2 = some true := by
  unfold sparselaw19_EtreePostorder
  by_cases hc : (80 : Int) < (x2.length : Int)
  · rw [if_pos hc, awake19]; rfl
  · rw [if_neg hc]
    obtain ⟨n, hp, hn⟩ := place_ok x1 13 (by omega) (by omega)
    have hp' : sparsekit_Place x1 13 = some (n : Int) := hp
    obtain ⟨b, hb⟩ := graph_ok (n := n) (by omega) x2 (by omega)
    have hG := nbr_gr b n
    have hadjl : ((List.range n).map fun k => nbr b k n).length = n := by simp
    generalize hadj : ((List.range n).map fun k => nbr b k n) = adj at hb hG hadjl
    clear hadj
    obtain ⟨par, h1, hPt⟩ := parent_full hG (by omega)
    have hpl : par.length = n := by rw [hPt.len, hadjl]
    have h20 : par.length ≤ 20 := by omega
    have h2 := post_e h20 hPt.fo
    have hP := post_perm hPt.fo h20
    obtain ⟨inv, hi1, hi2, hi3⟩ := invert_ok (by omega) hP
    obtain ⟨O, A, hPs, ho, ha⟩ := ps_of hPt.fo h20 hi2 hi3
    have hR := rl_of hPt.fo hPs
    have hnat := post_nat hPt.fo hPs hR h20 ho
    generalize hL : POk par (PO par FUEL) par.length (-1) = L at h2 hP hi1 hi3 ho
    clear hL
    rw [hpl] at hP hi2 hPs ho ha hR hnat
    have hrel := relabel_ok hG (by omega) (l := L) (by rw [hadjl]; exact PermN.pm hP)
    have hLl := hP.len
    rw [hLl] at hrel
    have hH : Gr ((List.range n).map fun i => coll (fun j => IJ adj L i j) n) := coll_gr (fun i j h => h.sym hG) (fun i h => h.ne hG)
    have hHl : ((List.range n).map fun i => coll (fun j => IJ adj L i j) n).length = n := by simp
    have hg : Rg adj ((List.range n).map fun i => coll (fun j => IJ adj L i j) n) n O := by
      intro i j hi hj
      rw [coll_ee hi hj]
      constructor
      · rintro ⟨x, y, g1, g2, g3⟩
        rw [ho i hi] at g1; rw [ho j hj] at g2
        obtain rfl := Option.some.inj g1
        obtain rfl := Option.some.inj g2
        rw [Int.toNat_natCast, Int.toNat_natCast] at g3
        exact g3
      · intro h
        refine ⟨_, _, ho i hi, ho j hj, ?_⟩
        rw [Int.toNat_natCast, Int.toNat_natCast]
        exact h
    generalize ((List.range n).map fun i => coll (fun j => IJ adj L i j) n) = hadj at hrel hH hHl hg
    obtain ⟨hq1, hq2⟩ := parent_relab hG hH hadjl hHl (by omega) hPt hPs.lab hR hg
    have hf1 := fill_ok hG hG hadjl hadjl (by omega) (natP n) (natL n) (fun i hi => by simp [hi]) (fun i j _ _ => Iff.rfl)
    have hf2 := fill_ok hG hH hadjl hHl (by omega) hP hPs.lab ho hg
    have hdeg : sm (deg hadj n A) n = sm (deg adj n fun i => i) n := by
      rw [← sm_perm hPs.lab hP ho (deg adj n fun i => i)]
      refine sm_congr _ fun k hk => ?_
      unfold deg
      congr 1
      refine List.filter_congr fun j hj => ?_
      have hj' : j < n := by simpa using hj
      rw [decide_eq_decide, nn_relab hG hH hadjl hHl hPt hq2 hPs.lab hR hg hk (hPs.lab.al j hj'), hPs.lab.oa j hj']
    rw [hdeg] at hf2
    have hql : (relq par n O A).length = n := by simp [relq]
    rw [bindS hp', bindS hb, bindS h1, bindS h2, bindS hrel, bindS hq1, bindS hnat]
    simp only [perm_ok (by omega) hP, Option.bind_some, decide_true, Bool.not_true, Bool.or_self, Bool.false_eq_true, if_false, List.length_map, List.length_range, hpl, hql]
    rw [bindS hi1, bindS (postLoop (by omega) hPt.fo hpl hLl hPs.lab.ol ho ha)]
    simp only
    rw [bindS hf1, bindS hf2, if_pos rfl, awake19]
    rfl
end Pv

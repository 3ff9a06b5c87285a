/- Place: a number below a bound; lists without repeats. (For seats without the texts of the forests.) -/
import Derived.Test.YtgnfkbaghjmgiaaGreatDoorPlA
import Derived.Test.YtgnfkbaghjmgiaaGreatDoorM7
namespace Pl
open Sx Go M
theorem place_ok (x:Int) (m:Nat) (h0:0 < m) (h1:m < 1000000):∃ z:Nat,sparsekit_Place x (m:Int)=some (z:Int)∧z < m:=by
  have hx:0≤wc .u64 x∧wc .u64 x < 18446744073709551616:=by unfold wc; rw [IntKind.wrap_u64]; omega
  have hm:wc .u64 (m:Int)=(m:Int):=IntWalk.u64_in _ (by omega)
  have h2:(wc .u64 x).tmod (m:Int)=(wc .u64 x) % (m:Int):=Int.tmod_eq_emod_of_nonneg hx.1
  have h3:=Int.emod_nonneg (wc .u64 x) (show (m:Int)≠0 by omega)
  have h4:=Int.emod_lt_of_pos (wc .u64 x) (show (0:Int) < m by omega)
  unfold sparsekit_Place wr
  rw [hm,if_neg (by omega),h2]
  refine ⟨((wc .u64 x) % (m:Int)).toNat,?_,by omega⟩
  show some (wc .i64 _)=_
  have h5:wc .i64 ((wc .u64 x) % (m:Int))=(wc .u64 x) % (m:Int):=IntWalk.i64_in _ (by omega)
  rw [h5]; congr 1; omega
theorem place_r (x m:Int) (h0:0 < m) (h1:m < 1000000):∃ z:Int,sparsekit_Place x m=some z∧0≤z∧z < m:=by
  obtain ⟨z,h2,h3⟩:=place_ok x m.toNat (by omega) (by omega)
  rw [show ((m.toNat:Nat):Int)=m by omega] at h2
  exact ⟨z,h2,by omega,by omega⟩
theorem nodup_inj {L:List Int} (h:L.Nodup) {i j:Nat} {hi:i < L.length} {hj:j < L.length} (he:L[i]=L[j]):i=j:=by
  have h1:=List.pairwise_iff_getElem.1 h
  by_cases hij:i=j
  · exact hij
  · rcases Nat.lt_or_gt_of_ne hij with h2 | h2
    · exact absurd he (h1 i j hi hj h2)
    · exact absurd he.symm (h1 j i hj hi h2)
theorem nodup_take {L:List Int} (h:L.Nodup) {k:Nat} (hk:k < L.length):L[k]∉L.take k:=by
  intro hm
  rw [List.mem_iff_getElem] at hm
  obtain ⟨i,hi,he⟩:=hm
  rw [List.getElem_take] at he
  have:=nodup_inj h he
  simp at hi
  omega
end Pl

/- The document's levels are the program's, and a class is what they list. -/
import Derived.Test.YthpeajepbffinaaPsI
import Derived.Test.YthpeajepbffinaaPsK
set_option linter.unusedSimpArgs false
set_option linter.unusedVariables false
namespace Pl
open Sx Go M Vc

theorem kin_ok {l : List Int} {v : Int} (hl : l.length < 1000000) {Q : Bool → Prop} : Ret (sparsekit_In l v) Q = Q (decide (v ∈ l)) := by
 refine ret_of (Ret.eq ?_)
 unfold sparsekit_In
 simp only [ret_bind]
 refine ret_loop l.length (fun k (t : Int) => t = k ∧ v ∉ l.take k) (by simp) ?_
 intro k t hk hI
 unfold sparsekit_In_l1
 simp only [ret_bind, ret_if, ret_get, ret_some, vq_l, vq_r]
 grind [List.take_add_one, List.mem_iff_getElem?]

end Pl

/- The search in an ascending list; the program's check of a graph holds for a graph. -/
import Derived.Test.YtgnfkbaghjmgiaaGreatDoorPlK
namespace Pl
open Sx Go M
theorem less_ok (x y:Int):cmp_Less_int x y=some (decide (x < y)):=by
  unfold cmp_Less_int cmp_isNaN_int; simp
theorem asc_get {l:List Int} (h:l.Pairwise (· < ·)) {i j:Nat} (hj:j < l.length) (hij:i < j):l[i] < l[j]:=
  List.pairwise_iff_getElem.1 h i j (by omega) hj hij
theorem mid_ok (a b:Nat) (h:a < b) (hb:b < 1000000):wc .i64 (wsrc .u64 (wc .u64 (wa .i64 (a:Int) (b:Int))) 1)=(((a+b) / 2:Nat):Int):=by
  rw [wa_in (by constructor<;>omega)]
  have h1:wc .u64 ((a:Int)+(b:Int))=(a:Int)+(b:Int):=IntWalk.u64_in _ (by omega)
  rw [h1]
  have h2:wsrc .u64 ((a:Int)+(b:Int)) 1=(((a+b) / 2:Nat):Int):=by
    unfold wsrc
    have:(2:Int) ^ min 1 IntKind.u64.bits=2:=by rfl
    rw [this,Int.fdiv_eq_ediv_of_nonneg _ (by omega)]
    omega
  rw [h2]
  exact IntWalk.i64_in _ (by omega)
theorem asc_len {l:List Int} {n:Nat} (h:l.Pairwise (· < ·)) (hr:∀ x,x∈l→0≤x∧x < n):l.length≤n:=by
  have key:∀ i,∀ hi:i < l.length,(i:Int)≤l[i]:=by
    intro i
    induction i with
    | zero=>intro hi; have:=hr _ (List.getElem_mem hi); omega
    | succ i ih=>
      intro hi
      have h1:=ih (by omega)
      have h2:=asc_get h hi (i:=i) (by omega)
      omega
  by_cases h0:l.length=0
  · omega
  · have h1:=key (l.length - 1) (by omega)
    have h2:=hr _ (List.getElem_mem (show l.length - 1 < l.length by omega))
    omega
theorem Gr.len {adj:List (List Int)} (hG:Gr adj) {v:Nat} {l:List Int} (h:adj[v]?=some l):l.length≤adj.length:=
  asc_len (hG.asc v l h) (fun x hx=>⟨(hG.rng v l x h hx).1,(hG.rng v l x h hx).2.1⟩)
end Pl

/- An append of one part of a row to an earlier part of it. It holds over any program. -/
import Derived.Test.YthpeajepbffinaaGreatSxJ
import Derived.Lib.SlicesCompact
import Derived.Lib.TrailingZeros
import Derived.Lib.SliceRun
namespace Sx
open Go
section
variable {P:Program} {α β:Type} {E:Rp α} {q:α} {a:Act} {w0 w:World} {ros:List Fact} {rs:List Res} {d:Option Tmp} {t:TypeId} {p:String} {af:Array Edge} {g:Option (Nat×Bool)} {x y:Operand} {T U e:TypeId} {h:Hdr} {l:List α}
end
def insI (x:Int):List Int→List Int
 | []=>[x]
 | y::l=>if x≤y then x::y::l else y::insI x l
def isortI:List Int→List Int
 | []=>[]
 | x::l=>insI x (isortI l)
def sortI (l:List Int):Option (List Int):=if (l.length:Int)≤BIG then some (isortI l) else none
def compactI (l:List Int):Option (List Int):=if (l.length:Int)≤BIG then some (Go.Lib.compact l) else none
theorem insI_perm (x:Int):∀ l,(insI x l).Perm (x::l):=by
 intro l
 induction l with
 | nil=>exact .refl _
 | cons y l ih=>
  rw [insI]
  split
  ·exact .refl _
  ·exact (List.Perm.cons y ih).trans (List.Perm.swap x y l)
theorem isortI_perm:∀ l,(isortI l).Perm l:=by
 intro l
 induction l with
 | nil=>exact .refl _
 | cons x l ih=>exact (insI_perm x _).trans (List.Perm.cons x ih)
theorem insI_sorted (x:Int):∀ l,l.Pairwise (·≤·)→(insI x l).Pairwise (·≤·):=by
 intro l
 induction l with
 | nil=>intro _; rw [insI]; exact List.pairwise_singleton _ _
 | cons y l ih=>
  intro h
  rw [List.pairwise_cons] at h
  rw [insI]
  split
  ·rename_i hxy
   refine List.pairwise_cons.2 ⟨fun z hz=>?_,List.pairwise_cons.2 h⟩
   rw [List.mem_cons] at hz
   rcases hz with rfl | hz
   ·exact hxy
   ·have:=h.1 z hz; omega
  ·refine List.pairwise_cons.2 ⟨fun z hz=>?_,ih h.2⟩
   have:=(insI_perm x l).mem_iff.1 hz
   rw [List.mem_cons] at this
   rcases this with rfl | this
   ·omega
   ·exact h.1 z this
theorem isortI_sorted:∀ l,(isortI l).Pairwise (·≤·):=by
 intro l
 induction l with
 | nil=>exact .nil
 | cons x l ih=>exact insI_sorted x _ ih
theorem isortI_merge (l:List Int):(l.mergeSort fun x y=>decide (x≤y))=isortI l:=by
 refine List.Perm.eq_of_pairwise (le:=fun a b:Int=>a≤b) (fun a b _ _ h1 h2=>by omega) ?_ (isortI_sorted l) ((List.mergeSort_perm l _).trans (isortI_perm l).symm)
 refine (List.pairwise_mergeSort (le:=fun x y:Int=>decide (x≤y)) ?_ ?_ l).imp ?_
 ·intro a b c h1 h2
  simp only [decide_eq_true_eq] at h1 h2 ⊢
  omega
 ·intro a b
  simp only [Bool.or_eq_true,decide_eq_true_eq]
  omega
 ·intro a b h
  simpa using h
theorem bp0 {a:Act}:((#[]:Array (Nat×Operand)).map fun (i,x)=>(i,a.eval x))=([]:List (Nat×Value)).toArray:=by simp
end Sx
